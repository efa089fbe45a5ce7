/- Contracts: code, record, the ideal world, the vault. -/
import Derived.Test.YtnmkbnfidjoljaaDoorGc
import Derived.Test.YtnmkbnfidjoljaaDoorGd
import Derived.Test.YtnmkbnfidjoljaaDoorGb
import Derived.DeepKeys4

/-! code.Writer -/
set_option maxRecDepth 20000
namespace Go.Dv
open Go Go.Sh Go.Sl

theorem sc_bytes : scal P t_sl_uint8 = true := by kernel_rfl
theorem sc_string : scal P t_string = true := by kernel_rfl
theorem sc_int : scal P t_int = true := by kernel_rfl
theorem sc_u8 : scal P t_uint8 = true := by kernel_rfl
theorem el_bytes : El P t_sl_uint8 t_uint8 1 1 := El.of (by kernel_rfl)
theorem el_ints : El P t_sl_int t_int 1 8 := El.of (by kernel_rfl)
theorem zr_Writer : zeros P t_code_Writer = some [.slice none 0 0] := by kernel_rfl
theorem un_string : P.underlying t_string = some .string := by kernel_rfl
theorem un_bytes : P.underlying t_sl_uint8 = some (.slice t_uint8) := by kernel_rfl
theorem un_u8 : P.underlying t_uint8 = some (.int .u8) := by kernel_rfl

variable {B : Bs} {w : World} {F : List HP} {K : Value → World → Prop}

/-- A place of a block of its own. -/
abbrev at0 (b : Nat) : Option Addr := some ⟨b, 0, none⟩

/-- A writer, and what was written. -/
def wr (b : Nat) (bs : List UInt8) : HP := box fun (x : Option Addr × Nat) => [bk b t_code_Writer [.slice x.1 bs.length x.2], buf t_uint8 1 x.1 bs.length x.2 (bcells bs)]

theorem wr_new {b : Nat} (h : Sat B w (bk b t_code_Writer [.slice none 0 0] :: F)) : Sat B w (wr b [] :: F) :=
  Sat.shut (none, 0) ((Sat.buf0 h).pull 1)

theorem Byte_ok {b m mc : Nat} {q : Option Addr} {bs cs : List UInt8} (h : Sat B w (wr b bs :: F)) (hr : Rd B q (bcells cs)) (hl : m = cs.length) (hb : bs.length + cs.length ≤ 140737488355328)
    (hk : ∀ w', Sat B w' (wr b (bs ++ cs) :: F) → K (.tuple #[]) w') : Cs P f_code_Writer_Byte #[.pointer (at0 b), .slice q m mc] w K := by
  subst hl
  obtain ⟨⟨p, c⟩, h⟩ := h.opened
  refine ok_code_Writer_Byte _ _ _ _ ?_
  unfold vc_code_Writer_Byte
  refine Jn.dup ?_
  refine Br.t (NN.some ⟨_, _, _, ld1 sc_bytes h.bk rfl, ?_⟩)
  refine Sat.append (h.pull 1) el_bytes hr (by simp [bcells_length]) (ones_bcells _) (by omega) fun p' c' w' h => NN.some ?_
  refine Sat.st1 (h.pull 1) sc_bytes rfl (by simp) fun w' h => ⟨rfl, hk _ ?_⟩
  refine Sat.shut (p', c') ?_
  rw [List.length_append, bcells_append]
  exact h

theorem flatMap_take {α β : Type} (f : α → List β) (l : List α) (i : Nat) (h : i < l.length) : (l.take (i + 1)).flatMap f = (l.take i).flatMap f ++ f l[i] := by
  have : l.take (i + 1) = l.take i ++ [l[i]] := by rw [List.take_add_one, List.getElem?_eq_getElem h]; rfl
  rw [this, List.flatMap_append]
  simp

theorem nums_length (ns : List Int) : (ns.flatMap num8).length = 8 * ns.length := by
  induction ns with
  | nil => rfl
  | cons n ns ih => simp [num8_length, ih]; omega

theorem Num_ok {b mc m : Nat} {q : Option Addr} {bs : List UInt8} {ns : List Int} (h : Sat B w (wr b bs :: F)) (hr : Rd B q (icells ns)) (hl : m = ns.length) (hb : bs.length + 8 * ns.length ≤ 140737488355328)
    (hk : ∀ w', Sat B w' (wr b (bs ++ ns.flatMap num8) :: F) → K (.tuple #[]) w') : Cs P f_code_Writer_Num #[.pointer (at0 b), .slice q m mc] w K := by
  subst hl
  refine ok_code_Writer_Num _ _ _ _ ?_
  unfold vc_code_Writer_Num
  refine Lp.up ns.length (fun i vs w => vs = [.int .i64 i] ∧ Sat B w (wr b (bs ++ (ns.take i).flatMap num8) :: F)) ⟨rfl, by simpa using h⟩ fun I nx cs => ?_
  intro n0 l0 w0 hI
  obtain ⟨i, hi, rfl, hv, h⟩ := cs _ _ _ hI
  obtain rfl : n0 = (i : Int) := by simpa using hv
  refine Br.lt (fun hlt => ?_) (fun hge => ?_)
  · have hlt : i < ns.length := by omega
    refine hr.ix hlt (by rw [icells_length]; omega) fun a hr' => ⟨ns[i], hr'.ld1 h sc_int (by simp [icells, hlt]), ?_⟩
    refine Lp.up 8 (fun k vs w => vs = [.int .i64 k] ∧ Sat B w (wr b (bs ++ (ns.take i).flatMap num8 ++ (num8 ns[i]).take k) :: F)) ⟨rfl, by simpa using h⟩ fun I' nx' cs' => ?_
    intro n2 l2 w2 hI'
    obtain ⟨k, hk', rfl, hv', h⟩ := cs' _ _ _ hI'
    obtain rfl : n2 = (k : Int) := by simpa using hv'
    refine Br.lt (fun hlt' => ?_) (fun hge' => ?_)
    · have hlt' : k < 8 := by omega
      rw [w64 (x := 8 * (k : Int)) (by omega) (by omega)]
      refine ⟨by simp only [Nn]; omega, ?_⟩
      refine h.build1 el_bytes rfl fun p w' h => ?_
      obtain ⟨B', hle, h, hr2, _⟩ := h.fix
      rw [bc1, show min (8 * (k : Int)).toNat 64 = 8 * k by omega, u64_fdiv _ _ hlt'] at hr2
      have hlen : ((ns.take i).flatMap num8).length = 8 * i := by rw [nums_length]; simp; omega
      refine Byte_ok h hr2 rfl (by simp only [List.length_append, List.length_take, num8_length, hlen, List.length_cons, List.length_nil]; omega) fun w' h => ⟨rfl, nx' k _ _ _ hlt' rfl ⟨?_, ?_⟩⟩
      · rw [w64 (by omega) (by omega)]; simp
      · rw [num8_take _ _ hlt', ← List.append_assoc]; exact h.thaw hle
    · have hk8 : k = 8 := by omega
      subst hk8
      refine nx i _ _ _ hlt rfl ⟨?_, ?_⟩
      · rw [w64 (by omega) (by omega)]; simp
      · rw [flatMap_take _ _ _ hlt, ← List.append_assoc]
        have : (num8 ns[i]).take 8 = num8 ns[i] := List.take_of_length_le (by rw [num8_length]; omega)
        rw [this] at h
        exact h
  · have hi : i = ns.length := by omega
    subst hi
    refine hk _ ?_
    simpa using h

theorem Bytes_ok {b : Nat} {bs : List UInt8} (h : Sat B w (wr b bs :: F)) (hb : bs.length ≤ 140737488355328)
    (hk : ∀ p c w', Sat B w' (buf t_uint8 1 p bs.length c (bcells bs) :: wr b bs :: F) → K (.slice p bs.length c) w') : Cs P f_code_Writer_Bytes #[.pointer (at0 b)] w K := by
  obtain ⟨⟨p, c⟩, h⟩ := h.opened
  refine ok_code_Writer_Bytes _ ?_
  unfold vc_code_Writer_Bytes
  refine Br.f (NN.some ⟨_, _, _, ld1 sc_bytes h.bk rfl, ?_⟩)
  obtain ⟨B', hle, h, hr, _, back⟩ := (h.pull 1).lend
  refine Sat.append h.buf0 el_bytes hr (by simp [bcells_length]) (ones_bcells _) (by omega) fun p' c' w' h => ?_
  have h := (back _ _ h).pull 1
  simp only [Nat.zero_add, List.nil_append] at h ⊢
  exact hk _ _ _ ((Sat.shut (f := fun x : Option Addr × Nat => [bk b t_code_Writer [.slice x.1 bs.length x.2], buf t_uint8 1 x.1 bs.length x.2 (bcells bs)]) (p, c) ((h.pull 1).pull 2 |>.pull 0)).pull 1)

theorem el_strings : El P t_sl_string t_string 1 16 := El.of (by kernel_rfl)

/-- Texts as cells. -/
def scells (ts : List (List UInt8)) : List Value := ts.map fun t => .string (str t)
theorem scells_length (ts : List (List UInt8)) : (scells ts).length = ts.length := by simp [scells]

/-- A text written down. -/
def txt (t : List UInt8) : List UInt8 := [by8 t.length, by8 (t.length / 2 ^ 8), by8 (t.length / 2 ^ 16)] ++ t

theorem Text_ok {b mc m N : Nat} {q : Option Addr} {bs : List UInt8} {ts : List (List UInt8)} (h : Sat B w (wr b bs :: F)) (hr : Rd B q (scells ts)) (hl : m = ts.length) (hs : ∀ t ∈ ts, t.length < 16777216) (hb : bs.length ≤ N) (hN : N + 16777219 * ts.length ≤ 140737488355328)
    (hk : ∀ w', Sat B w' (wr b (bs ++ ts.flatMap txt) :: F) → K (.tuple #[]) w') : Cs P f_code_Writer_Text #[.pointer (at0 b), .slice q m mc] w K := by
  subst hl
  refine ok_code_Writer_Text _ _ _ _ ?_
  unfold vc_code_Writer_Text
  refine Lp.up ts.length (fun i vs w => vs = [.int .i64 i] ∧ (bs ++ (ts.take i).flatMap txt).length ≤ N + 16777219 * i ∧ Sat B w (wr b (bs ++ (ts.take i).flatMap txt) :: F)) ⟨rfl, by simpa using hb, by simpa using h⟩ fun I nx cs => ?_
  intro n0 l0 w0 hI
  obtain ⟨i, hi, rfl, hv, hlen, h⟩ := cs _ _ _ hI
  obtain rfl : n0 = (i : Int) := by simpa using hv
  refine Br.lt (fun hlt => ?_) (fun hge => ?_)
  · have hlt : i < ts.length := by omega
    have ht := hs ts[i] (List.getElem_mem hlt)
    refine hr.ix hlt (by rw [scells_length]; omega) fun a hr' => ⟨str ts[i], hr'.ld1 h sc_string (by simp [scells, hlt]), ?_⟩
    refine Jn.dup ?_
    rw [size_str]
    have hlt2 : ltI (ts[i].length : Int) 16777216 = true := by simp only [ltI, decide_eq_true_eq]; omega
    rw [hlt2]
    refine Br.t ?_
    refine ⟨by simp [Nn], by simp [Nn], ?_⟩
    refine h.build3 el_bytes rfl rfl rfl fun p w' h => ?_
    obtain ⟨B', hle, h, hr2, _⟩ := h.fix
    rw [bc3] at hr2
    refine Byte_ok h hr2 rfl (by simp only [List.length_cons, List.length_nil]; omega) fun w' h => ⟨rfl, ?_⟩
    refine h.bytesOf un_string un_bytes un_u8 fun B'' p c w' hle' h hr3 => ?_
    refine Byte_ok h hr3 rfl (by simp only [List.length_append, List.length_cons, List.length_nil] at hlen ⊢; omega) fun w' h => ⟨rfl, rfl, nx i _ _ _ hlt rfl ⟨?_, ?_, ?_⟩⟩
    · rw [w64 (by omega) (by omega)]; simp
    · rw [flatMap_take _ _ _ hlt]
      simp only [List.length_append, txt, List.length_cons, List.length_nil] at hlen ⊢
      omega
    · rw [flatMap_take _ _ _ hlt]
      have h := (h.thaw hle').thaw hle
      have e8 : Int.fdiv (ts[i].length : Int) (2 ^ 8) = (ts[i].length : Int) / 2 ^ 8 := Int.fdiv_eq_ediv_of_nonneg _ (by decide)
      have e16 : Int.fdiv (ts[i].length : Int) (2 ^ 16) = (ts[i].length : Int) / 2 ^ 16 := Int.fdiv_eq_ediv_of_nonneg _ (by decide)
      rw [e8, e16] at h
      simpa [txt] using h
  · have hi : i = ts.length := by omega
    subst hi
    refine hk _ ?_
    simpa using h

end Go.Dv

/-! code.Reader -/
set_option maxRecDepth 20000
namespace Go.Dv
open Go Go.Sh Go.Sl

theorem sc_bool : scal P t_bool = true := by kernel_rfl
theorem sc_u64 : scal P t_uint64 = true := by kernel_rfl
theorem pt_Reader : parts P t_code_Reader = some ([(0, 1), (1, 1)], [.slice none 0 0, .bool false]) := by kernel_rfl

variable {B : Bs} {w : World} {F : List HP} {K : Value → World → Prop}

/-- A reader: what is left, and whether there was a fault. -/
def rdr (B : Bs) (b : Nat) (rest : List UInt8) (bad : Bool) : HP := box fun (x : Option Addr × Nat) => [bk b t_code_Reader [.slice x.1 rest.length x.2, .bool bad], so (Rd B x.1 (bcells rest) ∧ rest.length ≤ x.2)]

theorem rdr.mono {B B' : Bs} (hle : B.le B') {b : Nat} {rest : List UInt8} {bad : Bool} (h : Sat B' w (rdr B b rest bad :: F)) : Sat B' w (rdr B' b rest bad :: F) := by
  obtain ⟨x, h⟩ := h.opened
  obtain ⟨h1, h2⟩ := (h.pull 1).fact
  exact Sat.shut x ((Sat.known ⟨h1.1.mono hle, h1.2⟩ h2).pull 1)

theorem Read_ok {q : Option Addr} {m mc : Nat} {bs : List UInt8} (h : Sat B w F) (hr : Rd B q (bcells bs)) (hm : m = bs.length) (hb : bs.length ≤ 140737488355328)
    (hk : ∀ B' b w', B.le B' → Sat B' w' (rdr B' b bs false :: F) → K (.pointer (at0 b)) w') : Cs P f_code_Read #[.slice q m mc] w K := by
  subst hm
  refine ok_code_Read _ _ _ ?_
  unfold vc_code_Read
  refine Sat.append h.buf0 el_bytes hr (by simp [bcells_length]) (ones_bcells _) (by omega) fun p c w' h => ?_
  simp only [Nat.zero_add, List.nil_append] at h ⊢
  have hc : bs.length ≤ c := by
    rcases h.bufCases with ⟨_, h1, h2, _⟩ | ⟨_, _, _, h1, _⟩
    · omega
    · exact h1
  obtain ⟨B', hle, h, hr2, _⟩ := h.fix
  refine ⟨_, _, bld_run pt_Reader (by rw [fill_step rfl rfl rfl (by simp), fill_nil]), ?_⟩
  refine h.new fun b w' h => hk B' b w' hle ?_
  exact Sat.shut (p, c) ((Sat.known ⟨hr2, hc⟩ h).pull 1)

theorem Take_ok {b : Nat} {rest : List UInt8} {bad : Bool} {n : Int} (h : Sat B w (rdr B b rest bad :: F)) (hn : n < 9223372036854775808)
    (h1 : bad = false → 0 ≤ n → n ≤ rest.length → ∀ p w', Rd B p (bcells (rest.take n.toNat)) → Sat B w' (rdr B b (rest.drop n.toNat) false :: F) → K (.tuple #[.slice p n.toNat n.toNat, .bool true]) w')
    (h2 : (bad = true ∨ n < 0 ∨ rest.length < n) → ∀ w', Sat B w' (rdr B b [] true :: F) → K (.tuple #[.slice none 0 0, .bool false]) w') : Cs P f_code_Reader_Take #[.pointer (at0 b), .int .i64 n] w K := by
  obtain ⟨⟨p, c⟩, h⟩ := h.opened
  obtain ⟨⟨hr, hc⟩, h⟩ := (h.pull 1).fact
  refine ok_code_Reader_Take _ _ ?_
  unfold vc_code_Reader_Take
  have fail : (bad = true ∨ n < 0 ∨ rest.length < n) → Jn (fun K2 ↦ Br (!Option.isNone (at0 b)) (NN (at0 b) fun a2 ↦ DoU P (storeVar t_bool (Addr.add a2 1) (Value.bool true)) w fun w1 ↦ NN (at0 b) fun a3 ↦ DoU P (storeVar t_sl_uint8 (Addr.add a3 0) (Value.slice none 0 0)) w1 fun w2 ↦ K2 [] w2) (K2 [] w)) fun K3 ↦
            ∀ (w3 : World), K3 [] w3 → K (Value.tuple #[Value.slice none 0 0, Value.bool false]) w3 := by
    intro hf
    refine Jn.dup (Br.t (NN.some ?_))
    refine Sat.st1 h sc_bool rfl (by simp) fun w' h => NN.some ?_
    refine Sat.st1 h sc_bytes rfl (by simp) fun w' h => ⟨rfl, h2 hf _ ?_⟩
    exact Sat.shut (none, 0) ((Sat.known ⟨.inl rfl, Nat.le_refl _⟩ h).pull 1)
  refine Jn.dupB (Br.f (NN.some ⟨_, ld1 sc_bool h.bk rfl, Br.bool (fun hb => ⟨_, rfl, fail (.inl hb)⟩) fun hb => Br.lt (fun hn => ⟨_, rfl, fail (.inr (.inl hn))⟩) fun hn0 => NN.some ⟨_, _, _, ld1 sc_bytes h.bk rfl, _, rfl, Br.gt (fun hn => fail (.inr (.inr hn))) fun hle => ?_⟩⟩))
  have hnn : n.toNat ≤ rest.length := by omega
  refine NN.some ⟨_, _, _, ld1 sc_bytes h.bk rfl, ?_⟩
  refine DoL.part el_bytes (bounds_hm hn0 (by omega) (by omega)) ?_
  refine NN.some ⟨_, _, _, ld1 sc_bytes h.bk rfl, ?_⟩
  refine DoL.part el_bytes (bounds_l hn0 hle) (NN.some ?_)
  refine Sat.st1 h sc_bytes rfl (by simp) fun w' h => ?_
  simp only [Nat.sub_zero, Nat.mul_one]
  refine h1 hb hn0 hle _ _ ?_ ?_
  · have : bcells (rest.take n.toNat) = (bcells rest).take n.toNat := by simp [bcells, List.map_take]
    rw [this]
    split
    · rename_i h0
      rw [show n.toNat = 0 from h0]
      exact .inl (by simp)
    · have := hr.sub 0 n.toNat (by rw [bcells_length]; omega)
      have e0 : p.map (fun a => a.add (0 * 1)) = p.map (·.add 0) := rfl
      simpa using this
  · have hrd : Rd B (if c = n.toNat then p else p.map (·.add n.toNat)) (bcells (rest.drop n.toNat)) := by
      have e : bcells (rest.drop n.toNat) = (bcells rest).drop n.toNat := by simp [bcells, List.map_drop]
      rw [e]
      split
      · rename_i hcc
        exact .inl (by rw [List.drop_eq_nil_iff, bcells_length]; omega)
      · have h2 := hr.sub n.toNat (rest.length - n.toNat) (by rw [bcells_length]; omega)
        rw [List.take_of_length_le (by rw [List.length_drop, bcells_length]; omega)] at h2
        exact h2
    rw [hb] at h
    refine Sat.shut (f := fun x : Option Addr × Nat => [bk b t_code_Reader [.slice x.1 (rest.drop n.toNat).length x.2, .bool false], so (Rd B x.1 (bcells (rest.drop n.toNat)) ∧ (rest.drop n.toNat).length ≤ x.2)]) (if c = n.toNat then p else p.map (·.add n.toNat), c - n.toNat) ?_
    have h3 := (Sat.known (φ := Rd B (if c = n.toNat then p else p.map (·.add n.toNat)) (bcells (rest.drop n.toNat)) ∧ (rest.drop n.toNat).length ≤ c - n.toNat) ⟨hrd, by simp only [List.length_drop]; omega⟩ h).pull 1
    simpa [List.length_drop, pullL] using h3

theorem Good_ok {b : Nat} {rest : List UInt8} {bad : Bool} (h : Sat B w (rdr B b rest bad :: F)) (hk : K (.bool (!bad)) w) : Cs P f_code_Reader_Good #[.pointer (at0 b)] w K := by
  obtain ⟨⟨p, c⟩, h⟩ := h.opened
  refine ok_code_Reader_Good _ ?_
  unfold vc_code_Reader_Good
  exact Jn.dupB (Br.t (NN.some ⟨_, ld1 sc_bool h.bk rfl, _, rfl, hk⟩))

theorem End_ok {b : Nat} {rest : List UInt8} {bad : Bool} (h : Sat B w (rdr B b rest bad :: F)) (hk : K (.bool (!bad && rest.isEmpty)) w) : Cs P f_code_Reader_End #[.pointer (at0 b)] w K := by
  refine ok_code_Reader_End _ ?_
  unfold vc_code_Reader_End
  refine Jn.dupB (Good_ok h ⟨_, rfl, ?_⟩)
  obtain ⟨⟨p, c⟩, h⟩ := h.opened
  cases bad with
  | true => exact Br.f ⟨_, rfl, by simpa using hk⟩
  | false =>
    refine Br.t (NN.some ⟨_, _, _, ld1 sc_bytes h.bk rfl, _, rfl, ?_⟩)
    have : eqI (rest.length : Int) 0 = rest.isEmpty := by cases rest <;> simp [eqI]; omega
    rw [this]
    simpa using hk

theorem RNum_ok {b : Nat} {rest : List UInt8} {bad : Bool} (h : Sat B w (rdr B b rest bad :: F))
    (h1 : bad = false → 8 ≤ rest.length → ∀ w', Sat B w' (rdr B b (rest.drop 8) false :: F) → K (.int .i64 (num (rest.take 8))) w')
    (h2 : (bad = true ∨ rest.length < 8) → ∀ w', Sat B w' (rdr B b [] true :: F) → K (.int .i64 0) w') : Cs P f_code_Reader_Num #[.pointer (at0 b)] w K := by
  refine ok_code_Reader_Num _ ?_
  unfold vc_code_Reader_Num
  refine Take_ok h (by omega) (fun hb _ hn p w' hr h => ?_) (fun hf w' h => ⟨_, _, _, _, rfl, Br.t (h2 (hf.imp_right fun h => by omega) _ h)⟩)
  refine ⟨_, _, _, _, rfl, Br.f ?_⟩
  have hl8 : (rest.take 8).length = 8 := by simp; omega
  simp only [show (8 : Int).toNat = 8 from rfl] at hr h ⊢
  refine Lp.up 8 (fun i vs w => vs = [.int .u64 (le ((rest.take 8).take i)), .int .i64 i] ∧ Sat B w (rdr B b (rest.drop 8) false :: F)) ⟨rfl, h⟩ fun I nx cs => ?_
  intro n0 n1 l2 w1 hI
  obtain ⟨i, hi, rfl, hv, h⟩ := cs _ _ _ hI
  obtain ⟨rfl, rfl⟩ : n0 = le ((rest.take 8).take i) ∧ n1 = (i : Int) := by simpa using hv
  refine Br.lt (fun hlt => ?_) (fun hge => ?_)
  · have hlt : i < 8 := by omega
    refine hr.ix hlt (by rw [bcells_length]; omega) fun a hr' => ⟨((rest.take 8)[i]'(by omega)).toNat, hr'.ld1 h sc_u8 (by simp [bcells, bcell, show i < rest.length by omega, hlt]), ?_⟩
    rw [w64 (x := 8 * (i : Int)) (by omega) (by omega)]
    refine ⟨by simp only [Nn]; omega, nx i _ _ _ hlt rfl ⟨?_, h⟩⟩
    rw [w64 (x := (i : Int) + 1) (by omega) (by omega), show min (8 * (i : Int)).toNat 64 = 8 * i by omega, byte_shl hlt]
    have hb8 := le_bounds ((rest.take 8).take i)
    have hli : ((rest.take 8).take i).length = i := by simp; omega
    rw [hli] at hb8
    rw [or_add hb8.1 hb8.2 (by omega) (by have := ((rest.take 8)[i]'(by omega)).toNat_lt; omega) (by omega)]
    have : (rest.take 8).take (i + 1) = (rest.take 8).take i ++ [(rest.take 8)[i]'(by omega)] := by
      rw [List.take_add_one, List.getElem?_eq_getElem (by omega)]; rfl
    rw [this, le_append, hli]
    simp only [le, Int.mul_zero, Int.add_zero]
    rw [Int.mul_comm]
    simp
  · have : i = 8 := by omega
    subst this
    have e : (rest.take 8).take 8 = rest.take 8 := by rw [List.take_take]; rfl
    rw [e]
    exact h1 hb (by omega) _ h

theorem In_ok {b : Nat} {rest : List UInt8} {bad : Bool} {lo hi : Int} (h : Sat B w (rdr B b rest bad :: F))
    (h1 : bad = false → 8 ≤ rest.length → lo ≤ num (rest.take 8) → num (rest.take 8) ≤ hi → ∀ w', Sat B w' (rdr B b (rest.drop 8) false :: F) → K (.int .i64 (num (rest.take 8))) w')
    (h2 : (bad = true ∨ rest.length < 8 ∨ num (rest.take 8) < lo ∨ hi < num (rest.take 8)) → ∀ w', Sat B w' (rdr B b [] true :: F) → K (.int .i64 0) w') : Cs P f_code_Reader_In #[.pointer (at0 b), .int .i64 lo, .int .i64 hi] w K := by
  refine ok_code_Reader_In _ _ _ ?_
  unfold vc_code_Reader_In
  refine RNum_ok h (fun hb hl w' h => ⟨_, rfl, ?_⟩) (fun hf w' h => ⟨_, rfl, ?_⟩)
  · have bad' : (num (rest.take 8) < lo ∨ hi < num (rest.take 8)) → Jn (fun K2 ↦ Br true (Cs P f_code_Reader_Take #[Value.pointer (at0 b), .int .i64 (-1)] w' fun v1 w2 ↦ ∃ p0 l0 l1 b1, v1 = Value.tuple #[Value.slice p0 l0 l1, Value.bool b1] ∧ K2 [] w2) (K2 [] w')) fun K3 ↦
                ∀ (w3 : World), K3 [] w3 → Cs P f_code_Reader_Good #[Value.pointer (at0 b)] w3 fun v2 w4 ↦ ∃ b2, v2 = Value.bool b2 ∧ Br (!b2) (K (.int .i64 0) w4) (K (.int .i64 (num (rest.take 8))) w4) := by
      intro hf
      refine Jn.dup (Br.t (Take_ok h (by omega) (fun _ h0 => absurd h0 (by omega)) fun _ w' h => ⟨_, _, _, _, rfl, rfl, ?_⟩))
      exact Good_ok h ⟨_, rfl, Br.t (h2 (.inr (.inr hf)) _ h)⟩
    refine Jn.dupB (Br.lt (fun hlt => ⟨_, rfl, bad' (.inl hlt)⟩) fun hge => ⟨_, rfl, ?_⟩)
    by_cases hgt : hi < num (rest.take 8)
    · rw [show gtI (num (rest.take 8)) hi = true by simp [gtI, hgt]]
      exact bad' (.inr hgt)
    · rw [show gtI (num (rest.take 8)) hi = false by simp [gtI]; omega]
      refine Jn.dup (Br.f ⟨rfl, ?_⟩)
      exact Good_ok h ⟨_, rfl, Br.f (h1 hb hl hge (by omega) _ h)⟩
  · refine Jn.dupB ?_
    have key : ∀ c : Bool, Jn (fun K2 ↦ Br c (Cs P f_code_Reader_Take #[Value.pointer (at0 b), .int .i64 (-1)] w' fun v1 w2 ↦ ∃ p0 l0 l1 b1, v1 = Value.tuple #[Value.slice p0 l0 l1, Value.bool b1] ∧ K2 [] w2) (K2 [] w')) fun K3 ↦
                ∀ (w3 : World), K3 [] w3 → Cs P f_code_Reader_Good #[Value.pointer (at0 b)] w3 fun v2 w4 ↦ ∃ b2, v2 = Value.bool b2 ∧ Br (!b2) (K (.int .i64 0) w4) (K (.int .i64 0) w4) := by
      intro c
      cases c with
      | true =>
        refine Jn.dup (Br.t (Take_ok h (by omega) (fun h0 => absurd h0 (by simp)) fun _ w' h => ⟨_, _, _, _, rfl, rfl, ?_⟩))
        exact Good_ok h ⟨_, rfl, Br.t (h2 (hf.imp_right .inl) _ h)⟩
      | false =>
        refine Jn.dup (Br.f ⟨rfl, ?_⟩)
        exact Good_ok h ⟨_, rfl, Br.t (h2 (hf.imp_right .inl) _ h)⟩
    exact Br.lt (fun _ => ⟨_, rfl, key _⟩) (fun _ => ⟨_, rfl, key _⟩)

theorem three {l : List UInt8} (h : 3 ≤ l.length) : ∃ a b c, l.take 3 = [a, b, c] := by
  match l, h with
  | a :: b :: c :: l, _ => exact ⟨a, b, c, rfl⟩

theorem RText_ok {b : Nat} {rest : List UInt8} {bad : Bool} {most : Int} (h : Sat B w (rdr B b rest bad :: F))
    (h1 : bad = false → 3 ≤ rest.length → le (rest.take 3) ≤ mnI most 65536 → le (rest.take 3) ≤ (rest.drop 3).length → ∀ w', Sat B w' (rdr B b ((rest.drop 3).drop (le (rest.take 3)).toNat) false :: F) → K (.string (str ((rest.drop 3).take (le (rest.take 3)).toNat))) w')
    (h2 : (bad = true ∨ rest.length < 3 ∨ mnI most 65536 < le (rest.take 3) ∨ (rest.drop 3).length < le (rest.take 3)) → ∀ w', Sat B w' (rdr B b [] true :: F) → K (.string (str [])) w') : Cs P f_code_Reader_Text #[.pointer (at0 b), .int .i64 most] w K := by
  refine ok_code_Reader_Text _ _ ?_
  unfold vc_code_Reader_Text
  refine Take_ok h (by omega) (fun hb _ hn p w' hr h => ?_) (fun hf w' h => ⟨_, _, _, _, rfl, Br.t (h2 (hf.imp_right fun h => by omega) _ h)⟩)
  refine ⟨_, _, _, _, rfl, Br.f fun w'' ha => ?_⟩
  have h := h.alk ha
  obtain ⟨c0, c1, c2, h3⟩ := three (l := rest) (by omega)
  simp only [show (3 : Int).toNat = 3 from rfl, h3] at hr h h1 h2 ⊢
  refine hr.ix (j := 0) (by omega) (by simp [bcells]) fun a hr' => ⟨c0.toNat, hr'.ld1 h sc_u8 (by simp [bcells, bcell]), ?_⟩
  refine hr.ix (j := 1) (by omega) (by simp [bcells]) fun a hr' => ⟨c1.toNat, hr'.ld1 h sc_u8 (by simp [bcells, bcell]), by simp [Nn], ?_⟩
  refine hr.ix (j := 2) (by omega) (by simp [bcells]) fun a hr' => ⟨c2.toNat, hr'.ld1 h sc_u8 (by simp [bcells, bcell]), by simp [Nn], ?_⟩
  have l0 := c0.toNat_lt
  have l1 := c1.toNat_lt
  have l2 := c2.toNat_lt
  have e0 : IntKind.i64.wrap (c0.toNat : Int) = c0.toNat := w64 (by omega) (by omega)
  have e1 : IntKind.i64.wrap (IntKind.i64.wrap (c1.toNat : Int) * 2 ^ 8) = (c1.toNat : Int) * 2 ^ 8 := by rw [w64 (x := (c1.toNat : Int)) (by omega) (by omega)]; exact w64 (by omega) (by omega)
  have e2 : IntKind.i64.wrap (IntKind.i64.wrap (c2.toNat : Int) * 2 ^ 16) = (c2.toNat : Int) * 2 ^ 16 := by rw [w64 (x := (c2.toNat : Int)) (by omega) (by omega)]; exact w64 (by omega) (by omega)
  have e3 : bitsOf .or .i64 (bitsOf .or .i64 (IntKind.i64.wrap (c0.toNat : Int)) (IntKind.i64.wrap (IntKind.i64.wrap (c1.toNat : Int) * 2 ^ 8))) (IntKind.i64.wrap (IntKind.i64.wrap (c2.toNat : Int) * 2 ^ 16)) = le [c0, c1, c2] := by
    have a1 : bitsOf .or .i64 (c0.toNat : Int) ((c1.toNat : Int) * 2 ^ 8) = c0.toNat + c1.toNat * 2 ^ 8 := or_addS (s := 8) (by omega) (by omega) (by omega) (by omega) (by omega)
    have a2 : bitsOf .or .i64 ((c0.toNat : Int) + c1.toNat * 2 ^ 8) ((c2.toNat : Int) * 2 ^ 16) = c0.toNat + c1.toNat * 2 ^ 8 + c2.toNat * 2 ^ 16 := or_addS (s := 16) (by omega) (by omega) (by omega) (by omega) (by omega)
    rw [e0, e1, e2, a1, a2]
    simp only [le]; omega
  rw [e3]
  have hle := le_bounds [c0, c1, c2]
  have h24 : (2:Int) ^ 24 = 16777216 := by decide
  rw [show 8 * [c0, c1, c2].length = 24 from rfl, h24] at hle
  by_cases hm : mnI most 65536 < le [c0, c1, c2]
  · rw [show gtI (le [c0, c1, c2]) (mnI most 65536) = true by simp [gtI, hm]]
    exact Br.t (Take_ok h (by omega) (fun _ h0 => absurd h0 (by omega)) fun _ w' h => ⟨_, _, _, _, rfl, h2 (.inr (.inr (.inl hm))) _ h⟩)
  · rw [show gtI (le [c0, c1, c2]) (mnI most 65536) = false by simp [gtI]; omega]
    refine Br.f (Take_ok h (by omega) (fun _ h0 hn2 p w' hr h => ⟨_, _, _, _, rfl, ?_⟩) fun hf w' h => ⟨_, _, _, _, rfl, ?_⟩)
    · refine Rd.string h hr (by simp only [List.length_take]; omega) un_bytes un_u8 un_string ?_
      exact h1 hb (by omega) (by omega) hn2 _ h
    · refine Rd.string (bs := []) h (.inl rfl) rfl un_bytes un_u8 un_string ?_
      refine h2 (.inr (.inr (.inr ?_))) _ h
      rcases hf with hf | hf | hf
      · cases hf
      · omega
      · exact hf

end Go.Dv

/-! record -/
set_option maxRecDepth 20000
namespace Go.Dv
open Go Go.Sh Go.Sl

theorem wd_span : wide P t_record_span = some 2 := by kernel_rfl
theorem wd_form : wide P t_record_form = some 9 := by kernel_rfl
theorem pt_span : parts P t_record_span = some ([(0, 1), (1, 1)], [.int .i64 0, .int .i64 0]) := by kernel_rfl
theorem pt_form : parts P t_record_form = some ([(0, 2), (2, 2), (4, 2), (6, 2), (8, 1)], [.int .i64 0, .int .i64 0, .int .i64 0, .int .i64 0, .int .i64 0, .int .i64 0, .int .i64 0, .int .i64 0, .bool false]) := by kernel_rfl
theorem zr_form : zeros P t_record_form = some [.int .i64 0, .int .i64 0, .int .i64 0, .int .i64 0, .int .i64 0, .int .i64 0, .int .i64 0, .int .i64 0, .bool false] := by kernel_rfl

variable {B : Bs} {w : World} {F : List HP} {K : Value → World → Prop}

/-- From where to where. -/
structure Span where
  lo : Int
  hi : Int
def Span.cells (s : Span) : List Value := [.int .i64 s.lo, .int .i64 s.hi]
def Span.val (s : Span) : Value := .agg s.cells.toArray
def Span.has (s : Span) (n : Int) : Bool := decide (s.lo ≤ n) && decide (n ≤ s.hi)

structure Form where
  queue : Span
  id : Span
  num : Span
  wait : Span
  body : Bool
def Form.cells (f : Form) : List Value := f.queue.cells ++ f.id.cells ++ f.num.cells ++ f.wait.cells ++ [.bool f.body]
def Form.val (f : Form) : Value := .agg f.cells.toArray

def sNone : Span := ⟨0, 0⟩
def sId : Span := ⟨1, 1099511627776⟩
def sQueue : Span := ⟨1, 16⟩
def sWhen : Span := ⟨0, 1125899906842624⟩
def sLimit : Span := ⟨1, 16⟩
def sMany : Span := ⟨0, 16⟩
def sLate : Span := ⟨1, 1125899907891200⟩

/-- The package's variables. -/
structure Gl (B : Bs) : Prop where
  none : Rd B (at0 g_record_none) sNone.cells
  id : Rd B (at0 g_record_id) sId.cells
  queue : Rd B (at0 g_record_queue) sQueue.cells
  when : Rd B (at0 g_record_when) sWhen.cells
  limit : Rd B (at0 g_record_limit) sLimit.cells
  many : Rd B (at0 g_record_many) sMany.cells
  late : Rd B (at0 g_record_late) sLate.cells

theorem Gl.mono {B B' : Bs} (h : B.le B') (G : Gl B) : Gl B' :=
  ⟨G.none.mono h, G.id.mono h, G.queue.mono h, G.when.mono h, G.limit.mono h, G.many.mono h, G.late.mono h⟩

theorem ld_span {g : Nat} {s : Span} (h : Sat B w F) (hr : Rd B (at0 g) s.cells) : (loadVar t_record_span ⟨g, 0, none⟩).run P w = .ok s.val w := by
  have := hr.ldA (j := 0) h wd_span (by simp [Span.cells])
  rw [show (⟨g, 0, none⟩ : Addr).add 0 = ⟨g, 0, none⟩ from by rw [add_mk]] at this
  exact this

theorem b_span {a b : Int} : (Instr.build t_record_span #[(0, .int .i64 a), (1, .int .i64 b)]).run P w = .ok (Span.val ⟨a, b⟩) w :=
  bld_run pt_span (by rw [fill_step rfl rfl rfl (by simp), fill_step rfl rfl rfl (by simp), fill_nil]; rfl)

theorem b_form {q i n t : Span} {b : Bool} : (Instr.build t_record_form #[(0, q.val), (1, i.val), (2, n.val), (3, t.val), (4, .bool b)]).run P w = .ok (Form.val ⟨q, i, n, t, b⟩) w :=
  bld_run pt_form (by rw [fill_step (L := q.cells) rfl rfl rfl (by simp [Span.cells]), fill_step (L := i.cells) rfl rfl rfl (by simp [Span.cells]), fill_step (L := n.cells) rfl rfl rfl (by simp [Span.cells]), fill_step (L := t.cells) rfl rfl rfl (by simp [Span.cells]), fill_step (L := [.bool b]) rfl rfl rfl (by simp [Span.cells]), fill_nil]; rfl)

/-- A kind's form. -/
def formOf (k : Int) : Option Form :=
  if k = 1 then some ⟨sQueue, sLimit, ⟨1, 64⟩, ⟨1, 1048576⟩, false⟩
  else if k = 2 then some ⟨sQueue, sNone, sNone, sNone, false⟩
  else if k = 3 then some ⟨sQueue, sId, sNone, sNone, true⟩
  else if k = 4 then some ⟨sQueue, sId, sLate, sNone, false⟩
  else if k = 5 ∨ k = 6 ∨ k = 10 then some ⟨sQueue, sId, sNone, sNone, false⟩
  else if k = 13 then some ⟨sQueue, ⟨1, 1099511627777⟩, sNone, sNone, false⟩
  else if k = 7 then some ⟨sNone, sNone, sWhen, sNone, false⟩
  else if k = 8 ∨ k = 9 then some ⟨sNone, sId, sNone, sNone, false⟩
  else if k = 11 then some ⟨sQueue, sId, ⟨0, 1125899907891200⟩, sMany, true⟩
  else if k = 12 then some ⟨sQueue, sId, sNone, sMany, true⟩
  else none

def fzero : Form := ⟨⟨0, 0⟩, ⟨0, 0⟩, ⟨0, 0⟩, ⟨0, 0⟩, false⟩

theorem of_end {b : Nat} {L : List Value} {f : Form} {c : Bool} (h : Sat B w (bk b t_record_form L :: F)) (hL : L.length = 9) (hk : ∀ w', Sat B w' F → K (.tuple #[f.val, .bool c]) w') :
    DoU P (storeVar t_record_form ⟨b, 0, none⟩ f.val) w fun w4 ↦ LdV P t_record_form ⟨b, 0, none⟩ w4 fun v5 ↦ K (Value.tuple #[v5, Value.bool c]) w4 := by
  refine Sat.stA (n := 9) h wd_form rfl ?_ (by omega) fun w' h => ⟨_, ldA (n := 9) wd_form h.bk (by simp [hL, Form.cells, Span.cells]), ?_⟩
  · intro v hv
    simp only [Form.cells, Span.cells, List.cons_append, List.nil_append, List.mem_cons, List.not_mem_nil, or_false] at hv
    rcases hv with rfl | rfl | rfl | rfl | rfl | rfl | rfl | rfl | rfl <;> rfl
  · have e : ((List.take 0 L ++ f.cells ++ List.drop (0 + 9) L).drop 0).take 9 = f.cells := by
      simp only [List.take_zero, List.nil_append, List.drop_zero, Nat.zero_add]
      exact List.take_left' rfl
    rw [e]
    exact hk _ h.tail

theorem ld_late {s : Span} {g : Nat} (h : Sat B w F) (hr : Rd B (at0 g) s.cells) : (loadVar t_int (Addr.add ⟨g, 0, none⟩ 1)).run P w = .ok (.int .i64 s.hi) w := hr.ld1 (j := 1) h sc_int rfl

theorem of_ok {k : Int} (h : Sat B w F) (G : Gl B) (hk : ∀ w', Sat B w' F → K (.tuple #[((formOf k).getD fzero).val, .bool (formOf k).isSome]) w') : Cs P f_record_of #[.int .i64 k] w K := by
  refine ok_record_of _ ?_
  unfold vc_record_of
  refine h.var zr_form fun b w' h => ?_
  refine Br.eq (fun e => ?_) fun n1 => Br.eq (fun e => ?_) fun n2 => Br.eq (fun e => ?_) fun n3 => Br.eq (fun e => ?_) fun n4 => ?_
  any_goals
    subst e
    repeat (first | refine ⟨_, ld_span h G.queue, ?_⟩ | refine ⟨_, ld_span h G.limit, ?_⟩ | refine ⟨_, ld_span h G.none, ?_⟩ | refine ⟨_, ld_span h G.id, ?_⟩ | refine ⟨_, ld_span h G.late, ?_⟩ | refine ⟨_, _, b_span, ?_⟩ | refine ⟨_, _, b_form, ?_⟩)
    exact of_end h rfl hk
  have e5 : formOf k = (if k = 5 ∨ k = 6 ∨ k = 10 then some ⟨sQueue, sId, sNone, sNone, false⟩
  else if k = 13 then some ⟨sQueue, ⟨1, 1099511627777⟩, sNone, sNone, false⟩
  else if k = 7 then some ⟨sNone, sNone, sWhen, sNone, false⟩
  else if k = 8 ∨ k = 9 then some ⟨sNone, sId, sNone, sNone, false⟩
  else if k = 11 then some ⟨sQueue, sId, ⟨0, 1125899907891200⟩, sMany, true⟩
  else if k = 12 then some ⟨sQueue, sId, sNone, sMany, true⟩
  else none) := by simp [formOf, n1, n2, n3, n4]
  rw [e5] at hk
  clear e5
  refine Jn.dupB (Br.eq (fun e => ⟨_, rfl, ?_⟩) fun n5 => Jn.dupB (Br.eq (fun e => ⟨_, rfl, _, rfl, ?_⟩) fun n6 => ⟨_, rfl, _, rfl, ?_⟩))
  · subst e
    refine Br.t ?_
    refine ⟨_, ld_span h G.queue, _, ld_span h G.id, _, ld_span h G.none, _, ld_span h G.none, _, _, b_form, ?_⟩
    exact of_end h rfl hk
  · subst e
    refine Br.t ?_
    refine ⟨_, ld_span h G.queue, _, ld_span h G.id, _, ld_span h G.none, _, ld_span h G.none, _, _, b_form, ?_⟩
    exact of_end h rfl hk
  refine Br.eq (fun e => ?_) fun n10 => ?_
  · subst e
    refine ⟨_, ld_span h G.queue, _, ld_span h G.id, _, ld_span h G.none, _, ld_span h G.none, _, _, b_form, ?_⟩
    exact of_end h rfl hk
  rw [if_neg (by omega)] at hk
  refine Br.eq (fun e => ?_) fun n13 => ?_
  · subst e
    refine ⟨_, ld_span h G.queue, _, _, b_span, _, ld_span h G.none, _, ld_span h G.none, _, _, b_form, ?_⟩
    exact of_end h rfl hk
  rw [if_neg n13] at hk
  refine Br.eq (fun e => ?_) fun n7 => ?_
  · subst e
    refine ⟨_, ld_span h G.none, _, ld_span h G.none, _, ld_span h G.when, _, ld_span h G.none, _, _, b_form, ?_⟩
    exact of_end h rfl hk
  rw [if_neg n7] at hk
  refine Jn.dupB (Br.eq (fun e => ⟨_, rfl, ?_⟩) fun n8 => ⟨_, rfl, ?_⟩)
  · subst e
    refine Br.t ?_
    refine ⟨_, ld_span h G.none, _, ld_span h G.id, _, ld_span h G.none, _, ld_span h G.none, _, _, b_form, ?_⟩
    exact of_end h rfl hk
  refine Br.eq (fun e => ?_) fun n9 => ?_
  · subst e
    refine ⟨_, ld_span h G.none, _, ld_span h G.id, _, ld_span h G.none, _, ld_span h G.none, _, _, b_form, ?_⟩
    exact of_end h rfl hk
  rw [if_neg (by omega)] at hk
  refine Br.eq (fun e => ?_) fun n11 => ?_
  · subst e
    refine ⟨_, ld_span h G.queue, _, ld_span h G.id, _, ld_late h G.late, _, _, b_span, _, ld_span h G.many, _, _, b_form, ?_⟩
    exact of_end h rfl hk
  rw [if_neg n11] at hk
  refine Br.eq (fun e => ?_) fun n12 => ?_
  · subst e
    refine ⟨_, ld_span h G.queue, _, ld_span h G.id, _, ld_span h G.none, _, ld_span h G.many, _, _, b_form, ?_⟩
    exact of_end h rfl hk
  rw [if_neg n12] at hk
  refine ⟨_, _, bld_run pt_form fill_nil, ?_⟩
  exact of_end (f := fzero) h rfl hk

theorem pt_cells (s : Span) : s.val.cells.toList = s.cells := rfl

theorem in_ok {s : Span} {n : Int} (h : Sat B w F) (hk : ∀ w', Sat B w' F → K (.bool (s.has n)) w') : Cs P f_record_span_in #[s.val, .int .i64 n] w K := by
  refine ok_record_span_in _ _ ?_
  unfold vc_record_span_in
  refine h.new fun b w' h => Jn.dupB ⟨_, ld1 sc_int h.bk rfl, ?_⟩
  refine Br.ge (fun h1 => ⟨_, ld1 sc_int h.bk rfl, _, rfl, ?_⟩) fun h1 => ⟨_, rfl, ?_⟩
  · have : leI n s.hi = s.has n := by simp [leI, Span.has, h1]
    rw [this]; exact hk _ h.tail
  · have : s.has n = false := by simp [Span.has]; omega
    rw [← this]; exact hk _ h.tail

end Go.Dv

/-! record.Good, Put, Size, Get -/
set_option maxRecDepth 20000
namespace Go.Dv
open Go Go.Sh Go.Sl

theorem wd_Record : wide P t_api_Record = some 6 := by kernel_rfl
theorem zr_Record : zeros P t_api_Record = some [.int .i64 0, .int .i64 0, .int .i64 0, .int .i64 0, .int .i64 0, .string (str [])] := by kernel_rfl
theorem pt_Record : parts P t_api_Record = some ([(0, 1), (1, 1), (2, 1), (3, 1), (4, 1), (5, 1)], [.int .i64 0, .int .i64 0, .int .i64 0, .int .i64 0, .int .i64 0, .string (str [])]) := by kernel_rfl
theorem pt_Writer : parts P t_code_Writer = some ([(0, 1)], [.slice none 0 0]) := by kernel_rfl

variable {B : Bs} {w : World} {F : List HP} {K : Value → World → Prop}

structure Rec where
  kind : Int
  queue : Int
  id : Int
  num : Int
  wait : Int
  body : List UInt8
  deriving DecidableEq
def Rec.cells (r : Rec) : List Value := [.int .i64 r.kind, .int .i64 r.queue, .int .i64 r.id, .int .i64 r.num, .int .i64 r.wait, .string (str r.body)]
def Rec.val (r : Rec) : Value := .agg r.cells.toArray

/-- Can a record be? -/
def Rec.good (r : Rec) : Bool :=
  match formOf r.kind with
  | some f => f.queue.has r.queue && (f.id.has r.id && (f.num.has r.num && (f.wait.has r.wait && (decide (r.body.length ≤ 512) && (f.body || r.body.isEmpty)))))
  | none => false

theorem ones_Rec (r : Rec) : ones r.cells := by
  intro v hv
  simp only [Rec.cells, List.mem_cons, List.not_mem_nil, or_false] at hv
  rcases hv with rfl | rfl | rfl | rfl | rfl | rfl <;> rfl

theorem eqS_nil (l : List UInt8) : eqS (str l) (ByteArray.mk #[]) = l.isEmpty := by
  cases l <;> simp [eqS, ByteArray.toList_eq, str]

theorem RGood_ok {r : Rec} (h : Sat B w F) (G : Gl B) (hk : ∀ w', Sat B w' F → K (.bool r.good) w') : Cs P f_record_Good #[r.val] w K := by
  refine ok_record_Good _ ?_
  unfold vc_record_Good
  refine h.new fun b w' h => ⟨_, ld1 sc_int h.bk rfl, ?_⟩
  refine of_ok h G fun w' h => ⟨_, _, rfl, ?_⟩
  refine h.var zr_form fun b1 w' h => ?_
  have stage : ∀ w', Sat B w' (bk b1 t_record_form ((formOf r.kind).getD fzero).cells :: bk b t_api_Record r.val.cells.toList :: F) → Jn
                  (fun K0 ↦
                    Br (formOf r.kind).isSome
                      (LdV P t_record_span (Addr.add ⟨b1, 0, none⟩ 0) w' fun v2 ↦
                        LdI .i64 P t_int (Addr.add ⟨b, 0, none⟩ 1) w' fun n1 ↦
                          Cs P f_record_span_in #[v2, .int .i64 n1] w' fun v3 w4 ↦
                            ∃ b1', v3 = .bool b1' ∧
                                Br b1'
                                  (LdV P t_record_span (Addr.add ⟨b1, 0, none⟩ 2) w4 fun v4 ↦
                                    LdI .i64 P t_int (Addr.add ⟨b, 0, none⟩ 2) w4 fun n2 ↦
                                      Cs P f_record_span_in #[v4, .int .i64 n2] w4 fun v5 w5 ↦
                                        ∃ b2, v5 = .bool b2 ∧
                                            Br b2
                                              (LdV P t_record_span (Addr.add ⟨b1, 0, none⟩ 4) w5 fun v6 ↦
                                                LdI .i64 P t_int (Addr.add ⟨b, 0, none⟩ 3) w5 fun n3 ↦
                                                  Cs P f_record_span_in #[v6, .int .i64 n3] w5 fun v7 w6 ↦
                                                    ∃ b3, v7 = .bool b3 ∧
                                                        Br b3
                                                          (LdV P t_record_span (Addr.add ⟨b1, 0, none⟩ 6) w6 fun v8 ↦
                                                            LdI .i64 P t_int (Addr.add ⟨b, 0, none⟩ 4) w6 fun n4 ↦
                                                              Cs P f_record_span_in #[v8, .int .i64 n4] w6 fun v9 w7 ↦
                                                                ∃ b4, v9 = .bool b4 ∧
                                                                    Br b4
                                                                      (LdS P t_string (Addr.add ⟨b, 0, none⟩ 5) w7 fun s0 ↦
                                                                        Br (leI ((ByteArray.size s0 : Nat) : Int) 512) (LdB P t_bool (Addr.add ⟨b1, 0, none⟩ 8) w7 fun b5 ↦ Br b5 (K0 [.bool true] w7) (LdS P t_string (Addr.add ⟨b, 0, none⟩ 5) w7 fun s1 ↦ K0 [.bool (eqS s1 (ByteArray.mk #[]))] w7))
                                                                          (K0 [.bool false] w7))
                                                                      (K0 [.bool false] w7))
                                                          (K0 [.bool false] w6))
                                              (K0 [.bool false] w5))
                                  (K0 [.bool false] w4))
                      (K0 [.bool false] w'))
                  fun K1 ↦ ∀ (b6 : Bool) (w8 : World), K1 [.bool b6] w8 → K (.bool b6) w8 := by
    intro w' h
    cases hf : formOf r.kind with
    | none => 
      have hg : r.good = false := by simp [Rec.good, hf]
      exact Jn.dupB (Br.f ⟨_, rfl, by rw [← hg]; exact hk _ h.tail.tail⟩)
    | some f =>
      rw [hf] at h
      simp only [Option.getD_some] at h
      have fin : ∀ w'' c, Sat B w'' (bk b1 t_record_form f.cells :: bk b t_api_Record r.val.cells.toList :: F) → c = r.good → ∃ b', [Value.bool c] = [Value.bool b'] ∧ K (.bool b') w'' := fun w'' c h hc => ⟨_, rfl, by rw [hc]; exact hk _ h.tail.tail⟩
      refine Jn.dupB (Br.t ⟨_, ldA (n := 2) (L := f.cells) wd_span h.bk (by simp [Form.cells, Span.cells]), _, ld1 sc_int (h.pull 1).bk rfl, ?_⟩)
      refine in_ok (s := f.queue) h fun w' h => ⟨_, rfl, Br.bool (fun e1 => ?_) fun e1 => fin _ _ h (by simp [Rec.good, hf, e1])⟩
      refine ⟨_, ldA (n := 2) (L := f.cells) wd_span h.bk (by simp [Form.cells, Span.cells]), _, ld1 sc_int (h.pull 1).bk rfl, ?_⟩
      refine in_ok (s := f.id) h fun w' h => ⟨_, rfl, Br.bool (fun e2 => ?_) fun e2 => fin _ _ h (by simp [Rec.good, hf, e2])⟩
      refine ⟨_, ldA (n := 2) (L := f.cells) wd_span h.bk (by simp [Form.cells, Span.cells]), _, ld1 sc_int (h.pull 1).bk rfl, ?_⟩
      refine in_ok (s := f.num) h fun w' h => ⟨_, rfl, Br.bool (fun e3 => ?_) fun e3 => fin _ _ h (by simp [Rec.good, hf, e3])⟩
      refine ⟨_, ldA (n := 2) (L := f.cells) wd_span h.bk (by simp [Form.cells, Span.cells]), _, ld1 sc_int (h.pull 1).bk rfl, ?_⟩
      refine in_ok (s := f.wait) h fun w' h => ⟨_, rfl, Br.bool (fun e4 => ?_) fun e4 => fin _ _ h (by simp [Rec.good, hf, e4])⟩
      refine ⟨_, ld1 sc_string (h.pull 1).bk rfl, ?_⟩
      simp only [size_str]
      refine Br.le (fun hle => ⟨_, ld1 sc_bool h.bk rfl, Br.bool (fun e5 => ?_) fun e5 => ⟨_, ld1 sc_string (h.pull 1).bk rfl, ?_⟩⟩) fun hgt => fin _ _ h ?_
      · exact fin _ _ h (by simp [Rec.good, hf, e1, e2, e3, e4, e5]; omega)
      · refine fin _ _ h ?_
        rw [eqS_nil]
        have : r.body.length ≤ 512 := by omega
        simp [Rec.good, hf, e1, e2, e3, e4, e5, this]
      · have : ¬ r.body.length ≤ 512 := by omega
        simp [Rec.good, hf, this]
  refine Sat.stA (n := 9) (vs := ((formOf r.kind).getD fzero).cells) h wd_form rfl ?_ (by simp) fun w' h => ?_
  · intro v hv
    simp only [Form.cells, Span.cells, List.cons_append, List.nil_append, List.mem_cons, List.not_mem_nil, or_false] at hv
    rcases hv with rfl | rfl | rfl | rfl | rfl | rfl | rfl | rfl | rfl <;> rfl
  · exact stage w' h

theorem good_spans {r : Rec} (h : r.good = true) : (0 ≤ r.kind ∧ r.kind ≤ 13) ∧ (0 ≤ r.queue ∧ r.queue ≤ 16) ∧ (0 ≤ r.id ∧ r.id ≤ 1099511627777) ∧ (0 ≤ r.num ∧ r.num ≤ 1125899907891200) ∧ (0 ≤ r.wait ∧ r.wait ≤ 1048576) ∧ r.body.length ≤ 512 := by
  unfold Rec.good at h
  unfold formOf at h
  split at h
  · rename_i f hf
    simp only [Bool.and_eq_true, decide_eq_true_eq] at h
    obtain ⟨h1, h2, h3, h4, h5, _⟩ := h
    repeat' split at hf
    all_goals cases hf
    all_goals
      simp only [Span.has, Bool.and_eq_true, decide_eq_true_eq] at h1 h2 h3 h4
      have e1 : sQueue.lo = 1 ∧ sQueue.hi = 16 := ⟨rfl, rfl⟩
      have e2 : sNone.lo = 0 ∧ sNone.hi = 0 := ⟨rfl, rfl⟩
      have e3 : sId.lo = 1 ∧ sId.hi = 1099511627776 := ⟨rfl, rfl⟩
      have e4 : sWhen.lo = 0 ∧ sWhen.hi = 1125899906842624 := ⟨rfl, rfl⟩
      have e5 : sLimit.lo = 1 ∧ sLimit.hi = 16 := ⟨rfl, rfl⟩
      have e6 : sMany.lo = 0 ∧ sMany.hi = 16 := ⟨rfl, rfl⟩
      have e7 : sLate.lo = 1 ∧ sLate.hi = 1125899907891200 := ⟨rfl, rfl⟩
      omega
  · cases h

/-- A record's bytes. -/
def Rec.bytes (r : Rec) : List UInt8 := [by8 r.kind] ++ [r.queue, r.id, r.num, r.wait].flatMap num8 ++ [r.body].flatMap txt

theorem txt_length (t : List UInt8) : (txt t).length = t.length + 3 := by simp [txt]

theorem Rec.bytes_length (r : Rec) : r.bytes.length = 36 + r.body.length := by
  simp only [Rec.bytes, List.length_append, num8_length, List.length_cons, List.length_nil, List.flatMap_cons, List.flatMap_nil, txt_length, List.append_nil]
  omega

theorem newWriter {b : Nat} (h : Sat B w (bk b t_code_Writer (Value.agg [Value.slice none 0 0].toArray).cells.toList :: F)) : Sat B w (wr b [] :: F) := wr_new h

theorem Put_ok {r : Rec} (h : Sat B w F) (G : Gl B)
    (h1 : r.good = true → ∀ p c w', Sat B w' (buf t_uint8 1 p r.bytes.length c (bcells r.bytes) :: F) → K (.tuple #[.slice p r.bytes.length c, .int .i64 0]) w')
    (h2 : r.good = false → ∀ w', Sat B w' F → K (.tuple #[.slice none 0 0, .int .i64 1]) w') : Cs P f_record_Put #[r.val] w K := by
  refine ok_record_Put _ ?_
  unfold vc_record_Put
  refine h.new fun b w' h => ⟨_, ldA (n := 6) (L := r.cells) wd_Record h.bk (by simp [Rec.cells]), ?_⟩
  refine RGood_ok (r := r) h G fun w' h => ⟨_, rfl, Br.not (Br.bool (fun hg => ?_) fun hg => h2 hg _ h.tail)⟩
  have gs := good_spans hg
  refine ⟨_, _, bld_run pt_Writer fill_nil, ?_⟩
  refine h.new fun bw w' h => ?_
  have h := newWriter h
  refine ⟨_, ld1 (L := r.cells) sc_int (h.pull 1).bk rfl, ?_⟩
  refine h.build1 el_bytes rfl fun p w' h => ?_
  obtain ⟨B', hle, h, hr2, _⟩ := h.fix
  rw [bc1] at hr2
  refine Byte_ok h hr2 rfl (by simp) fun w' h => ⟨rfl, ?_⟩
  refine ⟨_, ld1 (L := r.cells) sc_int (h.pull 1).bk rfl, _, ld1 (L := r.cells) sc_int (h.pull 1).bk rfl, _, ld1 (L := r.cells) sc_int (h.pull 1).bk rfl, _, ld1 (L := r.cells) sc_int (h.pull 1).bk rfl, ?_⟩
  refine h.build4 el_ints rfl rfl rfl rfl fun p w' h => ?_
  obtain ⟨B2, hle2, h, hr3, _⟩ := h.fix
  refine Num_ok (ns := [r.queue, r.id, r.num, r.wait]) h hr3 rfl (by simp) fun w' h => ⟨rfl, ?_⟩
  refine ⟨_, ld1 (L := r.cells) sc_string (h.pull 1).bk rfl, ?_⟩
  refine h.build1 el_strings rfl fun p w' h => ?_
  obtain ⟨B3, hle3, h, hr4, _⟩ := h.fix
  refine Text_ok (ts := [r.body]) (N := 33) h hr4 rfl (by simp; omega) (by simp [num8_length]) (by simp) fun w' h => ⟨rfl, ?_⟩
  have hb : ([] ++ [by8 r.kind] ++ [r.queue, r.id, r.num, r.wait].flatMap num8 ++ [r.body].flatMap txt) = r.bytes := by simp [Rec.bytes]
  rw [hb] at h
  refine Bytes_ok h (by rw [Rec.bytes_length]; omega) fun p c w' h => ⟨_, _, _, rfl, ?_⟩
  exact h1 hg _ _ _ (((((h.thaw hle3).thaw hle2).thaw hle).pull 1).tail.pull 1).tail

theorem flat_length {α β : Type} {f : α → List β} {k : Nat} (hf : ∀ x, (f x).length = k) (l : List α) : (l.flatMap f).length = l.length * k := by
  induction l with
  | nil => simp
  | cons x l ih => simp [hf, ih, Nat.add_mul]; omega

theorem flat_at {α β : Type} {f : α → List β} {k : Nat} (hf : ∀ x, (f x).length = k) : ∀ (l : List α) (j : Nat) (h : j < l.length), ((l.flatMap f).drop (j * k)).take k = f l[j]
  | x :: l, 0, _ => by simp [← hf x]
  | x :: l, j + 1, h => by
    have h' : j < l.length := by simpa using h
    rw [List.flatMap_cons, Nat.add_mul, Nat.one_mul, Nat.add_comm, ← List.drop_drop, List.drop_left' (hf x)]
    simpa using flat_at hf l j h'

theorem Rec.cells_length (r : Rec) : r.cells.length = 6 := rfl

/-- A record out of a row of them. -/
theorem ld_rec {a : Addr} {rs : List Rec} {j : Nat} (h : Sat B w F) (hr : Rd B (some a) (rs.flatMap Rec.cells)) (hj : j < rs.length) : (loadVar t_api_Record (a.add (j * 6))).run P w = .ok rs[j].val w := by
  have := hr.ldA (n := 6) (j := j * 6) h wd_Record (by rw [flat_length Rec.cells_length]; omega)
  rw [flat_at Rec.cells_length rs j hj] at this
  exact this

/-- How many bytes records take. -/
def sizes (rs : List Rec) : Nat := (rs.map fun r => 36 + r.body.length).sum
theorem sizes_le {rs : List Rec} {m : Nat} (hs : ∀ r ∈ rs, r.body.length ≤ m) : sizes rs ≤ (36 + m) * rs.length := by
  induction rs with
  | nil => simp [sizes]
  | cons r rs ih =>
    have h1 := hs r (by simp)
    have h2 := ih fun x hx => hs x (by simp [hx])
    simp only [sizes, List.map_cons, List.sum_cons, List.length_cons] at h2 ⊢
    rw [Nat.mul_add]; omega
theorem sizes_take {rs : List Rec} {i : Nat} (h : i < rs.length) : sizes (rs.take (i + 1)) = sizes (rs.take i) + (36 + rs[i].body.length) := by
  have : rs.take (i + 1) = rs.take i ++ [rs[i]] := by rw [List.take_add_one, List.getElem?_eq_getElem h]; rfl
  rw [this]
  simp only [sizes, List.map_append, List.sum_append, List.map_cons, List.map_nil, List.sum_cons, List.sum_nil, Nat.add_zero]

theorem RSize_ok {q : Option Addr} {m mc : Nat} {rs : List Rec} (h : Sat B w F) (hr : Rd B q (rs.flatMap Rec.cells)) (hm : m = rs.length) (hs : ∀ r ∈ rs, r.body.length ≤ 1048576) (hn : rs.length ≤ 1048576)
    (hk : ∀ w', Sat B w' F → K (.int .i64 (sizes rs)) w') : Cs P f_record_Size #[.slice q m mc] w K := by
  subst hm
  refine ok_record_Size _ _ _ ?_
  unfold vc_record_Size
  refine Lp.up rs.length (fun i vs w => vs = [.int .i64 (sizes (rs.take i)), .int .i64 i] ∧ Sat B w F) ⟨rfl, h⟩ fun I nx cs => ?_
  intro n0 n1 l0 w0 hI
  obtain ⟨i, hi, rfl, hv, h⟩ := cs _ _ _ hI
  obtain ⟨rfl, rfl⟩ : n0 = (sizes (rs.take i) : Int) ∧ n1 = (i : Int) := by simpa using hv
  refine Br.lt (fun hlt => ?_) (fun hge => ?_)
  · have hlt : i < rs.length := by omega
    refine hr.ix hlt (by rw [flat_length Rec.cells_length]; omega) fun a hr' => ⟨_, ld_rec h hr' hlt, ?_⟩
    refine h.var zr_Record fun b w' h => ?_
    refine Sat.stA (n := 6) (vs := rs[i].cells) h wd_Record rfl (ones_Rec _) (by simp) fun w' h => ⟨_, ld1 sc_string h.bk rfl, ?_⟩
    simp only [size_str]
    have hb := hs rs[i] (List.getElem_mem hlt)
    have hsz : sizes (rs.take i) ≤ (36 + 1048576) * (rs.take i).length := sizes_le fun r hr => hs r (List.mem_of_mem_take hr)
    have hl : (rs.take i).length ≤ 1048576 := by simp; omega
    have hsz2 : sizes (rs.take i) ≤ 1048612 * 1048576 := Nat.le_trans hsz (Nat.mul_le_mul_left _ hl)
    refine nx i _ _ _ hlt rfl ⟨?_, h.tail⟩
    rw [w64 (x := (36 : Int) + _) (by omega) (by omega), w64 (by omega) (by omega), w64 (by omega) (by omega), sizes_take hlt]
    simp
  · have hi : i = rs.length := by omega
    subst hi
    have e : rs.take rs.length = rs := List.take_length
    rw [e]
    exact hk _ h

theorem RNum_at {b : Nat} {rest : List UInt8} {n : Int} (h : Sat B w (rdr B b (num8 n ++ rest) false :: F)) (h0 : -9223372036854775808 ≤ n) (h1 : n < 9223372036854775808)
    (hk : ∀ w', Sat B w' (rdr B b rest false :: F) → K (.int .i64 n) w') : Cs P f_code_Reader_Num #[.pointer (at0 b)] w K := by
  refine RNum_ok h (fun _ _ w' h => ?_) fun hf => ?_
  · have e1 : (num8 n ++ rest).take 8 = num8 n := List.take_left' (num8_length n)
    have e2 : (num8 n ++ rest).drop 8 = rest := List.drop_left' (num8_length n)
    rw [e2] at h
    rw [e1, num_num8 h0 h1]
    exact hk _ h
  · rcases hf with hf | hf
    · cases hf
    · simp [num8_length] at hf; omega

theorem b_rec {k q i n t : Int} : (Instr.build t_api_Record #[(0, .int .i64 k), (1, .int .i64 q), (2, .int .i64 i), (3, .int .i64 n), (4, .int .i64 t)]).run P w = .ok (Rec.val ⟨k, q, i, n, t, []⟩) w :=
  bld_run pt_Record (by rw [fill_step (L := [.int .i64 k]) rfl rfl rfl (by simp), fill_step (L := [.int .i64 q]) rfl rfl rfl (by simp), fill_step (L := [.int .i64 i]) rfl rfl rfl (by simp), fill_step (L := [.int .i64 n]) rfl rfl rfl (by simp), fill_step (L := [.int .i64 t]) rfl rfl rfl (by simp), fill_nil]; rfl)

end Go.Dv

/-! record.Get -/
set_option maxRecDepth 20000
namespace Go.Dv
open Go Go.Sh Go.Sl

variable {B : Bs} {w : World} {F : List HP} {K : Value → World → Prop}

theorem RTake_at {b : Nat} {l rest : List UInt8} {n : Int} (h : Sat B w (rdr B b (l ++ rest) false :: F)) (hn : n = l.length) (hl : l.length < 9223372036854775808)
    (hk : ∀ p w', Rd B p (bcells l) → Sat B w' (rdr B b rest false :: F) → K (.tuple #[.slice p l.length l.length, .bool true]) w') : Cs P f_code_Reader_Take #[.pointer (at0 b), .int .i64 n] w K := by
  subst hn
  refine Take_ok h (by omega) (fun _ _ _ p w' hr h => ?_) fun hf => ?_
  · rw [Int.toNat_natCast, List.take_left' rfl] at hr
    rw [Int.toNat_natCast, List.drop_left' rfl] at h
    exact hk p w' hr h
  · rcases hf with hf | hf | hf
    · cases hf
    · omega
    · simp at hf; omega

theorem le_three {n : Nat} (h : n < 16777216) : le [by8 n, by8 (n / 2 ^ 8), by8 (n / 2 ^ 16)] = n := by
  simp only [le, by8_toNat]
  omega

theorem RText_at {b : Nat} {t rest : List UInt8} {most : Int} (h : Sat B w (rdr B b (txt t ++ rest) false :: F)) (hm : (t.length : Int) ≤ most) (h16 : t.length ≤ 65536)
    (hk : ∀ w', Sat B w' (rdr B b rest false :: F) → K (.string (str t)) w') : Cs P f_code_Reader_Text #[.pointer (at0 b), .int .i64 most] w K := by
  have e0 : txt t ++ rest = [by8 t.length, by8 (t.length / 2 ^ 8), by8 (t.length / 2 ^ 16)] ++ (t ++ rest) := by simp [txt]
  rw [e0] at h
  have e1 : ([by8 t.length, by8 (t.length / 2 ^ 8), by8 (t.length / 2 ^ 16)] ++ (t ++ rest)).take 3 = [by8 t.length, by8 (t.length / 2 ^ 8), by8 (t.length / 2 ^ 16)] := rfl
  have e2 : ([by8 t.length, by8 (t.length / 2 ^ 8), by8 (t.length / 2 ^ 16)] ++ (t ++ rest)).drop 3 = t ++ rest := rfl
  have e3 := le_three (n := t.length) (by omega)
  have em : (t.length : Int) ≤ mnI most 65536 := by unfold mnI; split <;> omega
  refine RText_ok h (fun _ _ _ _ w' h => ?_) fun hf => ?_
  · rw [e1, e2, e3, Int.toNat_natCast, List.drop_left' rfl] at h
    rw [e1, e2, e3, Int.toNat_natCast, List.take_left' rfl]
    exact hk _ h
  · rw [e1, e2, e3] at hf
    rcases hf with hf | hf | hf | hf
    · cases hf
    · simp at hf; omega
    · omega
    · simp at hf; omega

theorem Get_ok {q : Option Addr} {m mc : Nat} {r : Rec} (h : Sat B w F) (G : Gl B) (hr : Rd B q (bcells r.bytes)) (hm : m = r.bytes.length) (hg : r.good = true)
    (hk : ∀ w', Sat B w' F → K (.tuple #[r.val, .int .i64 0]) w') : Cs P f_record_Get #[.slice q m mc] w K := by
  have gs := good_spans hg
  refine ok_record_Get _ _ _ ?_
  unfold vc_record_Get
  refine h.var zr_Record fun b0 w' h => ?_
  refine Read_ok h hr hm (by rw [Rec.bytes_length]; omega) fun B' br w' hle h => ⟨_, rfl, ?_⟩
  have hb : r.bytes = [by8 r.kind] ++ (num8 r.queue ++ (num8 r.id ++ (num8 r.num ++ (num8 r.wait ++ (txt r.body ++ []))))) := by simp [Rec.bytes]
  rw [hb] at h
  refine RTake_at h rfl (by simp) fun p w' hr1 h => ⟨_, _, _, _, rfl, Br.f ?_⟩
  refine Jn.by (fun vs w => ∃ b, vs = [.pointer (at0 b)] ∧ Sat B' w (bk b t_api_Record (Rec.cells ⟨r.kind, r.queue, r.id, r.num, r.wait, []⟩) :: rdr B' br (txt r.body ++ []) false :: bk b0 t_api_Record [.int .i64 0, .int .i64 0, .int .i64 0, .int .i64 0, .int .i64 0, .string (str [])] :: F)) ?_ ?_
  · intro w' ha
    have h := h.alk ha
    refine hr1.ix (j := 0) (by simp) (by simp [bcells]) fun a hr1' => ⟨(by8 r.kind).toNat, hr1'.ld1 h sc_u8 (by simp [bcells, bcell]), ?_⟩
    have hSt : ∀ {w' F'}, Sat B' w' F' → (loadVar t_uint8 (a.add (0 * 1))).run P w' = .ok (.int .u8 (by8 r.kind).toNat) w' := fun h => hr1'.ld1 h sc_u8 (by simp [bcells, bcell])
    have ek : IntKind.i64.wrap ((by8 r.kind).toNat : Int) = r.kind := by rw [by8_toNat, w64 (by omega) (by omega)]; omega
    simp only [ek]
    have last : ∀ {w' b G'}, Sat B' w' (bk b t_api_Record [.int .i64 0, .int .i64 0, .int .i64 0, .int .i64 0, .int .i64 0, .string (str [])] :: rdr B' br (txt r.body ++ []) false :: bk b0 t_api_Record [.int .i64 0, .int .i64 0, .int .i64 0, .int .i64 0, .int .i64 0, .string (str [])] :: F) →
        (∀ w', Sat B' w' (bk b t_api_Record (Rec.cells ⟨r.kind, r.queue, r.id, r.num, r.wait, []⟩) :: rdr B' br (txt r.body ++ []) false :: bk b0 t_api_Record [.int .i64 0, .int .i64 0, .int .i64 0, .int .i64 0, .int .i64 0, .string (str [])] :: F) → G' w') →
        DoU P (storeVar t_api_Record ⟨b, 0, none⟩ (Rec.val ⟨r.kind, r.queue, r.id, r.num, r.wait, []⟩)) w' G' := fun h hk =>
      Sat.stA (n := 6) h wd_Record rfl (ones_Rec _) (by simp) fun w' h => hk w' h
    refine ⟨RNum_at h (by omega) (by omega) fun w' h => ⟨_, rfl, ⟨hSt h, trivial⟩, RNum_at h (by omega) (by omega) fun w' h => ⟨_, rfl, ⟨hSt h, trivial⟩, RNum_at h (by omega) (by omega) fun w' h => ⟨_, rfl, ⟨hSt h, trivial⟩, RNum_at h (by omega) (by omega) fun w' h => ⟨_, rfl, ⟨hSt h, trivial⟩, _, b_rec, ?_⟩, ?_⟩, ?_⟩, ?_⟩, ?_⟩
    · exact h.var zr_Record fun b w' h => ⟨⟨b_rec, hSt h, trivial⟩, last h fun w' h => ⟨_, rfl, h⟩⟩
    · exact h.var zr_Record fun b w' h => ⟨⟨hSt h, trivial⟩, RNum_at (h.pull 1) (by omega) (by omega) fun w' h => ⟨_, rfl, ⟨hSt h, trivial⟩, _, b_rec, last (h.pull 1) fun w' h => ⟨_, rfl, h⟩⟩⟩
    · exact h.var zr_Record fun b w' h => ⟨⟨hSt h, trivial⟩, RNum_at (h.pull 1) (by omega) (by omega) fun w' h => ⟨_, rfl, ⟨hSt h, trivial⟩, RNum_at h (by omega) (by omega) fun w' h => ⟨_, rfl, ⟨hSt h, trivial⟩, _, b_rec, last (h.pull 1) fun w' h => ⟨_, rfl, h⟩⟩⟩⟩
    · exact h.var zr_Record fun b w' h => ⟨⟨hSt h, trivial⟩, RNum_at (h.pull 1) (by omega) (by omega) fun w' h => ⟨_, rfl, ⟨hSt h, trivial⟩, RNum_at h (by omega) (by omega) fun w' h => ⟨_, rfl, ⟨hSt h, trivial⟩, RNum_at h (by omega) (by omega) fun w' h => ⟨_, rfl, ⟨hSt h, trivial⟩, _, b_rec, last (h.pull 1) fun w' h => ⟨_, rfl, h⟩⟩⟩⟩⟩
    · exact h.var zr_Record fun b w' h => ⟨⟨hSt h, trivial⟩, RNum_at (h.pull 1) (by omega) (by omega) fun w' h => ⟨_, rfl, ⟨hSt h, trivial⟩, RNum_at h (by omega) (by omega) fun w' h => ⟨_, rfl, ⟨hSt h, trivial⟩, RNum_at h (by omega) (by omega) fun w' h => ⟨_, rfl, ⟨hSt h, trivial⟩, RNum_at h (by omega) (by omega) fun w' h => ⟨_, rfl, ⟨hSt h, trivial⟩, _, b_rec, last (h.pull 1) fun w' h => ⟨_, rfl, h⟩⟩⟩⟩⟩⟩
  · rintro a7 w' ⟨b, e, h⟩
    obtain rfl : a7 = ⟨b, 0, none⟩ := by simpa using e
    refine RText_at (h.pull 1) (by omega) (by omega) fun w' h => ⟨_, rfl, ?_⟩
    refine Sat.st1 (h.pull 1) sc_string rfl (by simp [Rec.cells]) fun w' h => ?_
    refine Jn.dupB (End_ok (h.pull 1) ⟨_, rfl, Br.f ⟨_, ldA (n := 6) (L := r.cells) wd_Record h.bk (by simp [Rec.cells]), ?_⟩⟩)
    refine RGood_ok (r := r) (h) (G.mono hle) fun w' h => ⟨_, rfl, _, rfl, ?_⟩
    rw [hg]
    refine Br.f ⟨_, ldA (n := 6) (L := r.cells) wd_Record h.bk (by simp [Rec.cells]), ?_⟩
    refine Sat.stA (n := 6) (vs := r.cells) (h.pull 2) wd_Record rfl (ones_Rec _) (by simp) fun w' h => ⟨_, ldA (n := 6) (L := r.cells) wd_Record h.bk (by simp [Rec.cells]), ?_⟩
    exact hk _ (h.tail.tail.tail.thaw hle)

end Go.Dv

/-! ideal: names, joined pieces -/
set_option maxRecDepth 20000
namespace Go.Dv
open Go Go.Sh Go.Sl

theorem sc_sl : scal P t_sl_uint8 = true := by kernel_rfl
theorem el_pieces : El P t_sl_sl_uint8 t_sl_uint8 1 24 := El.of (by kernel_rfl)

variable {B : Bs} {w : World} {F : List HP} {K : Value → World → Prop}

/-- A slice of bytes, as a value. -/
def SlOf (B : Bs) (v : Value) (bs : List UInt8) : Prop := ∃ p c, v = .slice p bs.length c ∧ Rd B p (bcells bs)
theorem SlOf.mono {B B' : Bs} (hle : B.le B') {v : Value} {bs : List UInt8} (h : SlOf B v bs) : SlOf B' v bs := let ⟨p, c, e, hr⟩ := h; ⟨p, c, e, hr.mono hle⟩
theorem SlOf.mk {p : Option Addr} {l c : Nat} {bs : List UInt8} (hr : Rd B p (bcells bs)) (hl : l = bs.length) : SlOf B (.slice p l c) bs := ⟨p, c, by rw [hl], hr⟩

/-- A row of slices of bytes. -/
structure Rds (B : Bs) (q : Option Addr) (vs : List Value) (ps : List (List UInt8)) : Prop where
  rd : Rd B q vs
  len : vs.length = ps.length
  each : ∀ i (h : i < ps.length) (h' : i < vs.length), SlOf B vs[i] ps[i]

theorem Rds.mono {B B' : Bs} (hle : B.le B') {q : Option Addr} {vs : List Value} {ps : List (List UInt8)} (h : Rds B q vs ps) : Rds B' q vs ps := ⟨h.rd.mono hle, h.len, fun i h1 h2 => (h.each i h1 h2).mono hle⟩

theorem Rds.one {q : Option Addr} {v : Value} {a : List UInt8} (hr : Rd B q [v]) (h1 : SlOf B v a) : Rds B q [v] [a] :=
  ⟨hr, rfl, fun i h h' => by match i, h with | 0, _ => exact h1⟩
theorem Rds.two {q : Option Addr} {v v2 : Value} {a a2 : List UInt8} (hr : Rd B q [v, v2]) (h1 : SlOf B v a) (h2 : SlOf B v2 a2) : Rds B q [v, v2] [a, a2] :=
  ⟨hr, rfl, fun i h h' => by match i, h with | 0, _ => exact h1 | 1, _ => exact h2⟩
theorem Rds.four {q : Option Addr} {v v2 v3 v4 : Value} {a a2 a3 a4 : List UInt8} (hr : Rd B q [v, v2, v3, v4]) (h1 : SlOf B v a) (h2 : SlOf B v2 a2) (h3 : SlOf B v3 a3) (h4 : SlOf B v4 a4) : Rds B q [v, v2, v3, v4] [a, a2, a3, a4] :=
  ⟨hr, rfl, fun i h h' => by match i, h with | 0, _ => exact h1 | 1, _ => exact h2 | 2, _ => exact h3 | 3, _ => exact h4⟩
theorem Rds.none {q : Option Addr} : Rds B q [] [] := ⟨.inl rfl, rfl, fun i h => absurd h (by simp)⟩

theorem flat_take {α : Type} (ps : List (List α)) (i : Nat) (h : i < ps.length) : (ps.take (i + 1)).flatten = (ps.take i).flatten ++ ps[i] := by
  have : ps.take (i + 1) = ps.take i ++ [ps[i]] := by rw [List.take_add_one, List.getElem?_eq_getElem h]; rfl
  rw [this, List.flatten_append]
  simp only [List.flatten_cons, List.flatten_nil, List.append_nil]

theorem flat_le {α : Type} (ps : List (List α)) (i : Nat) : (ps.take i).flatten.length ≤ ps.flatten.length := by
  have : ps.flatten = (ps.take i).flatten ++ (ps.drop i).flatten := by rw [← List.flatten_append, List.take_append_drop]
  rw [this, List.length_append]; omega

theorem joined_ok {q : Option Addr} {m mc : Nat} {vs : List Value} {ps : List (List UInt8)} (h : Sat B w F) (hr : Rds B q vs ps) (hm : m = ps.length) (hm2 : ps.length < 1000000) (hb : ps.flatten.length ≤ 140737488355328)
    (hk : ∀ p c w', Sat B w' (buf t_uint8 1 p ps.flatten.length c (bcells ps.flatten) :: F) → K (.slice p ps.flatten.length c) w') : Cs P f_ideal_joined #[.slice q m mc] w K := by
  subst hm
  refine ok_ideal_joined _ _ _ ?_
  unfold vc_ideal_joined
  refine Lp.up ps.length (fun i vs w => ∃ p c, vs = [.slice p (ps.take i).flatten.length c, .int .i64 i] ∧ Sat B w (buf t_uint8 1 p (ps.take i).flatten.length c (bcells (ps.take i).flatten) :: F)) ⟨none, 0, rfl, h.buf0⟩ fun I nx cs => ?_
  intro p0 l0 l1 n0 l2 w0 hI
  obtain ⟨i, hi, rfl, p, c, hv, h⟩ := cs _ _ _ hI
  obtain ⟨⟨rfl, rfl, rfl⟩, rfl⟩ : (p0 = p ∧ l0 = (ps.take i).flatten.length ∧ l1 = c) ∧ n0 = (i : Int) := by simpa using hv
  refine Br.lt (fun hlt => ?_) (fun hge => ?_)
  · have hlt : i < ps.length := by omega
    have hlt' : i < vs.length := by rw [hr.len]; exact hlt
    obtain ⟨pp, pc, e, hrp⟩ := hr.each i hlt hlt'
    have hfl := flat_le ps (i + 1)
    rw [flat_take ps i hlt, List.length_append] at hfl
    refine hr.rd.ix hlt (by omega) fun a hr' => ⟨pp, _, pc, hr'.ld1 h sc_sl (by rw [← e]; simp [hlt']), ?_⟩
    refine Sat.append h el_bytes hrp (by simp [bcells_length]) (ones_bcells _) (by omega) fun p' c' w' h => ?_
    refine nx i _ _ _ hlt rfl ⟨p', c', ?_, ?_⟩
    · rw [flat_take ps i hlt, List.length_append, w64 (by omega) (by omega)]; simp
    · rw [flat_take ps i hlt, List.length_append, bcells_append]; exact h
  · have hi : i = ps.length := by omega
    subst hi
    rw [List.take_length] at h ⊢
    exact hk _ _ _ h

/-- What something is made of, as a text. -/
def part1 (p : List UInt8) : List UInt8 := num8 p.length ++ p
def nm (kind : UInt8) (ps : List (List UInt8)) : List UInt8 := [kind] ++ ps.flatMap part1

theorem part1_length (p : List UInt8) : (part1 p).length = 8 + p.length := by simp [part1, num8_length]
theorem parts_length (ps : List (List UInt8)) : (ps.flatMap part1).length = 8 * ps.length + ps.flatten.length := by
  induction ps with
  | nil => rfl
  | cons p ps ih => simp only [List.flatMap_cons, List.length_append, part1_length, ih, List.flatten_cons, List.length_cons]; omega

theorem parts_inj : ∀ (ps qs : List (List UInt8)), ps.length = qs.length → (∀ p ∈ ps, p.length < 4611686018427387904) → (∀ p ∈ qs, p.length < 4611686018427387904) → ps.flatMap part1 = qs.flatMap part1 → ps = qs
  | [], [], _, _, _, _ => rfl
  | p :: ps, q :: qs, hl, h1, h2, h => by
    simp only [List.flatMap_cons, part1, List.append_assoc] at h
    have h3 := List.append_inj h (by rw [num8_length, num8_length])
    have hp := h1 p (by simp)
    have hq := h2 q (by simp)
    have hlen := num8_inj (by omega) (by omega) (by omega) (by omega) h3.1
    have h4 := List.append_inj h3.2 (by omega)
    rw [h4.1, parts_inj ps qs (by simpa using hl) (fun x hx => h1 x (by simp [hx])) (fun x hx => h2 x (by simp [hx])) h4.2]

theorem nm_inj {k : UInt8} {ps qs : List (List UInt8)} (hl : ps.length = qs.length) (h1 : ∀ p ∈ ps, p.length < 4611686018427387904) (h2 : ∀ p ∈ qs, p.length < 4611686018427387904) (h : nm k ps = nm k qs) : ps = qs :=
  parts_inj ps qs hl h1 h2 (List.append_cancel_left h)

theorem name_ok {q : Option Addr} {m mc : Nat} {vs : List Value} {k : UInt8} {ps : List (List UInt8)} (h : Sat B w F) (hr : Rds B q vs ps) (hm : m = ps.length) (hm2 : ps.length < 1000000) (hb : ps.flatten.length ≤ 140737400000000)
    (hk : ∀ w', Sat B w' F → K (.string (str (nm k ps))) w') : Cs P f_ideal_name #[.int .u8 (k.toNat : Int), .slice q m mc] w K := by
  subst hm
  refine ok_ideal_name _ _ _ _ ?_
  unfold vc_ideal_name
  refine ⟨_, _, bld_run pt_Writer fill_nil, ?_⟩
  refine h.new fun bw w' h => ?_
  have h := newWriter h
  refine h.build1 el_bytes rfl fun p w' h => ?_
  obtain ⟨B', hle, h, hr2, _⟩ := h.fix
  refine Byte_ok (cs := [k]) h hr2 rfl (by simp) fun w' h => ⟨rfl, ?_⟩
  have h := h.thaw hle
  refine Lp.up ps.length (fun i vs w => vs = [.int .i64 i] ∧ Sat B w (wr bw ([k] ++ (ps.take i).flatMap part1) :: F)) ⟨rfl, by simpa using h⟩ fun I nx cs => ?_
  intro n0 l2 w0 hI
  obtain ⟨i, hi, rfl, hv, h⟩ := cs _ _ _ hI
  obtain rfl : n0 = (i : Int) := by simpa using hv
  have hfl := flat_le ps (i + 1)
  have hpl := parts_length (ps.take i)
  have hti : (ps.take i).length ≤ ps.length := by simp; omega
  refine Br.lt (fun hlt => ?_) (fun hge => ?_)
  · have hlt : i < ps.length := by omega
    have hlt' : i < vs.length := by rw [hr.len]; exact hlt
    obtain ⟨pp, pc, e, hrp⟩ := hr.each i hlt hlt'
    rw [flat_take ps i hlt, List.length_append] at hfl
    refine hr.rd.ix hlt (by omega) fun a hr' => ⟨pp, _, pc, hr'.ld1 h sc_sl (by rw [← e]; simp [hlt']), ?_⟩
    refine h.build1 el_ints rfl fun p w' h => ?_
    obtain ⟨B', hle, h, hr3, _⟩ := h.fix
    refine Num_ok (ns := [(ps[i].length : Int)]) h hr3 rfl (by simp only [List.length_append, List.length_cons, List.length_nil]; omega) fun w' h => ⟨rfl, ?_⟩
    refine Byte_ok h (hrp.mono hle) rfl (by simp only [List.length_append, List.length_cons, List.length_nil, List.flatMap_cons, List.flatMap_nil, num8_length]; omega) fun w' h => ⟨rfl, ?_⟩
    refine nx i _ _ _ hlt rfl ⟨?_, ?_⟩
    · rw [w64 (by omega) (by omega)]; simp
    · rw [flatMap_take part1 ps i hlt]
      have h := h.thaw hle
      simpa [part1] using h
  · have hi : i = ps.length := by omega
    subst hi
    rw [List.take_length] at h hpl
    refine Bytes_ok h (by simp only [List.length_append, List.length_cons, List.length_nil]; omega) fun p c w' h => ⟨_, _, _, rfl, ?_⟩
    obtain ⟨B', hle, h, hr4, _⟩ := h.fix
    exact Rd.string (bs := nm k ps) h hr4 rfl un_bytes un_u8 un_string (hk _ (h.tail.thaw hle))

end Go.Dv

/-! ideal: the world -/
set_option maxRecDepth 20000
namespace Go.Dv
open Go Go.Sh Go.Sl
open Go.WideMaps (KeyLaw string_law keyOf_string_mk)

theorem un_mapInt : P.underlying t_map_string_int = some (.map t_string t_int) := by kernel_rfl
theorem un_mapStr : P.underlying t_map_string_string = some (.map t_string t_string) := by kernel_rfl
theorem sc_mapInt : scal P t_map_string_int = true := by kernel_rfl
theorem sc_mapStr : scal P t_map_string_string = true := by kernel_rfl
theorem zr_u8 : zeros P t_uint8 = some (List.replicate 1 (bcell 0)) := by kernel_rfl
theorem zr_int : zeros P t_int = some [.int .i64 0] := by kernel_rfl
theorem zr_string : zeros P t_string = some [.string (str [])] := by kernel_rfl
theorem kl_string : KeyLaw P t_string := string_law un_string

variable {B : Bs} {w : World} {F : List HP} {K : Value → World → Prop}

theorem key_str {s : List UInt8} (h : s.length ≤ 140737488355328) : ∃ l, keyOf P t_string (.string (str s)) = some l :=
  ⟨_, keyOf_string_mk un_string (by rw [size_str]; simp only [maxLen]; omega)⟩

/-- All that was made, in its order; the texts. -/
structure Id where
  made : List (List UInt8)
  texts : List (List UInt8 × List UInt8)

def madeKV (l : List (List UInt8)) : List (Value × Value) := l.zipIdx.map fun x => (.string (str x.1), .int .i64 ((x.2 : Int) + 1))
def textKV (l : List (List UInt8 × List UInt8)) : List (Value × Value) := l.map fun x => (.string (str x.1), .string (str x.2))

/-- The ideal world's pieces. -/
def idl (b : Nat) (I : Id) : HP := box fun (r : Nat × Nat) => [bk b t_ideal_World [.map (some r.1), .map (some r.2)], mp P t_string r.1 (madeKV I.made), mp P t_string r.2 (textKV I.texts)]

theorem madeKV_fst (l : List (List UInt8)) : (madeKV l).map (·.1) = l.map fun s => .string (str s) := by
  simp only [madeKV, List.map_map]
  have : ((fun x : Value × Value => x.1) ∘ fun x : List UInt8 × Nat => (Value.string (str x.1), Value.int .i64 ((x.2 : Int) + 1))) = (fun s => Value.string (str s)) ∘ Prod.fst := by funext x; rfl
  rw [this, ← List.map_map, List.zipIdx_map_fst]

theorem nodup_of_map {α β : Type} (f : α → β) : ∀ {l : List α}, (l.map f).Nodup → l.Nodup
  | [], _ => List.nodup_nil
  | a :: l, h => by
    rw [List.map_cons, List.nodup_cons] at h
    rw [List.nodup_cons]
    exact ⟨fun ha => h.1 (List.mem_map.2 ⟨a, ha, rfl⟩), nodup_of_map f h.2⟩

theorem Id.nodup {b : Nat} {I : Id} (h : Sat B w (idl b I :: F)) : I.made.Nodup ∧ (I.texts.map (·.1)).Nodup := by
  obtain ⟨r, h⟩ := h.opened
  obtain ⟨_, _, _, _, _, h1⟩ := (h.pull 1).mpOpen
  obtain ⟨_, _, _, _, _, h2⟩ := (h.pull 2).mpOpen
  rw [madeKV_fst] at h1
  refine ⟨nodup_of_map _ h1, ?_⟩
  have : (textKV I.texts).map (·.1) = (I.texts.map (·.1)).map fun s => Value.string (str s) := by simp [textKV]
  rw [this] at h2
  exact nodup_of_map _ h2

theorem madeKV_append (l : List (List UInt8)) (s : List UInt8) : madeKV (l ++ [s]) = madeKV l ++ [(.string (str s), .int .i64 ((l.length : Int) + 1))] := by
  simp [madeKV, List.zipIdx_append]

theorem mem_madeKV {l : List (List UInt8)} {s : List UInt8} {v : Value} (h : (.string (str s), v) ∈ madeKV l) : ∃ i : Nat, l[i]? = some s ∧ v = .int .i64 ((i : Int) + 1) := by
  simp only [madeKV, List.mem_map] at h
  obtain ⟨⟨t, i⟩, h1, h2⟩ := h
  simp only [Prod.mk.injEq, Value.string.injEq] at h2
  obtain ⟨h3, rfl⟩ := h2
  have := str_inj h3
  subst this
  exact ⟨i, List.mem_zipIdx_iff_getElem?.1 h1, rfl⟩

/-- Something is made, if it wasn't. -/
def Id.put (I : Id) (s : List UInt8) : Id := if s ∈ I.made then I else { I with made := I.made ++ [s] }
/-- Its number. -/
def Id.no (I : Id) (s : List UInt8) : Nat := I.made.idxOf s + 1

theorem idxOf_of {l : List (List UInt8)} (hn : l.Nodup) {s : List UInt8} {i : Nat} (h : l[i]? = some s) : l.idxOf s = i := by
  obtain ⟨hi, e⟩ := List.getElem?_eq_some_iff.1 h
  subst e
  exact hn.idxOf_getElem i hi

theorem Id.put_no (I : Id) (s : List UInt8) (h : s ∉ I.made) : (I.put s).no s = I.made.length + 1 := by
  simp [Id.put, h, Id.no, List.idxOf_append]

theorem Id.put_le (I : Id) (s : List UInt8) : (I.put s).made.length ≤ I.made.length + 1 := by
  unfold Id.put; split <;> simp

/-- The bytes of a thing. -/
def thg (k : UInt8) (n : Nat) (no : Nat) : List UInt8 := num8 no ++ [k] ++ List.replicate (n - 9) 238
theorem thg_length {k : UInt8} {n no : Nat} (h : 9 ≤ n) : (thg k n no).length = n := by simp [thg, num8_length]; omega

theorem wrap_i64_u64 (x : Int) : IntKind.u64.wrap (IntKind.i64.wrap x) = IntKind.u64.wrap x := by rw [IntKind.wrap_u64, IntKind.wrap_u64, IntKind.wrap_i64]; omega

theorem thg_fill {a0 : Nat} {k : UInt8} {n : Nat} {no : Int} {Q : Value → World → Prop} (hn : 9 ≤ n) (hn2 : n ≤ 140737488355328) (h : Sat B w (bk a0 t_uint8 (List.replicate (n * 1) (bcell 0)) :: F))
    (hk : ∀ w', Sat B w' (buf t_uint8 1 (at0 a0) n n (bcells (num8 no ++ [k] ++ List.replicate (n - 9) 238)) :: F) → Q (.slice (at0 a0) n n) w') :
    Lp [.int .i64 0] w fun K2 ↦
      ∀ (n3 : Int) (l2 : Nat) (w6 : World),
        K2 l2 [.int .i64 n3] w6 →
          Br (ltI n3 (n : Int)) (Ix (at0 a0) n n3 1 fun a3 ↦ DoU P (storeVar t_uint8 a3 (.int .u8 238)) w6 fun w7 ↦ Nx K2 l2 [.int .i64 (IntKind.i64.wrap (n3 + 1))] w7)
            (Lp [.int .i64 0] w6 fun K3 ↦
              ∀ (n4 : Int) (l3 : Nat) (w8 : World),
                K3 l3 [.int .i64 n4] w8 →
                  Br (ltI n4 8)
                    (Nn (IntKind.i64.wrap (8 * n4)) ∧
                      Ix (at0 a0) n n4 1 fun a4 ↦
                        DoU P (storeVar t_uint8 a4 (.int .u8 (IntKind.u8.wrap (Int.fdiv (IntKind.u64.wrap no) (2 ^ min (Int.toNat (IntKind.i64.wrap (8 * n4))) 64))))) w8 fun w9 ↦ Nx K3 l3 [.int .i64 (IntKind.i64.wrap (n4 + 1))] w9)
                    (Ix (at0 a0) n 8 1 fun a5 ↦ DoU P (storeVar t_uint8 a5 (.int .u8 (k.toNat : Int))) w8 fun w10 ↦ DoL P (Instr.sliceAt t_sl_uint8 (.slice (at0 a0) n n) none (some (.int .i64 (n : Int))) none) w10 fun p4 l4 l5 w11 ↦ Q (.slice p4 l4 l5) w11)) := by
  have hst : ∀ {i : Nat} {bs : List UInt8} {c : UInt8} {w : World} {G : World → Prop}, i < n → bs.length = n → Sat B w (bk a0 t_uint8 (bcells bs) :: F) → (∀ w', Sat B w' (bk a0 t_uint8 (bcells (bs.set i c)) :: F) → G w') →
      Ix (at0 a0) n (i : Int) 1 fun a3 ↦ DoU P (storeVar t_uint8 a3 (bcell c)) w fun w7 ↦ G w7 := by
    intro i bs c w G hi hl h hk
    refine Ix.mk (by omega) (by omega) ?_
    rw [add_mk]
    refine Sat.st1 h sc_u8 rfl (by rw [bcells_length]; simp; omega) fun w' h => hk w' ?_
    rw [← bcells_set]
    simpa using h
  refine Lp.up n (fun i vs w => vs = [.int .i64 i] ∧ ∃ bs : List UInt8, bs.length = n ∧ (∀ j, j < i → bs[j]? = some 238) ∧ Sat B w (bk a0 t_uint8 (bcells bs) :: F)) ⟨rfl, List.replicate n 0, by simp, by simp, by rw [bcells_rep]; simpa using h⟩ fun I nx cs => ?_
  intro n3 l2 w6 hI
  obtain ⟨i, hi, rfl, hv, bs, hl, hall, h6⟩ := cs _ _ _ hI
  obtain rfl : n3 = (i : Int) := by simpa using hv
  refine Br.lt (fun hlt => ?_) (fun hge => ?_)
  · have hlt : i < n := by omega
    refine hst (c := 238) hlt hl h6 fun w' h => nx i _ _ _ hlt rfl ⟨?_, bs.set i 238, by simp [hl], ?_, h⟩
    · rw [w64 (by omega) (by omega)]; simp
    · intro j hj
      rw [List.getElem?_set]
      split
      · simp [hl, hlt]
      · exact hall j (by omega)
  · have hin : i = n := by omega
    subst hin
    refine Lp.up 8 (fun k' vs w => vs = [.int .i64 k'] ∧ ∃ bs : List UInt8, bs.length = i ∧ (∀ j, j < k' → bs[j]? = (num8 no)[j]?) ∧ (∀ j, k' ≤ j → j < i → bs[j]? = some 238) ∧ Sat B w (bk a0 t_uint8 (bcells bs) :: F)) ⟨rfl, bs, hl, by simp, fun j _ hj => hall j hj, h6⟩ fun I' nx' cs' => ?_
    intro n4 l3 w8 hI'
    obtain ⟨k', hk8, rfl, hv', bs, hl, h1, h2, h⟩ := cs' _ _ _ hI'
    obtain rfl : n4 = (k' : Int) := by simpa using hv'
    refine Br.lt (fun hlt => ?_) (fun hge => ?_)
    · have hlt : k' < 8 := by omega
      rw [w64 (x := 8 * (k' : Int)) (by omega) (by omega), show min (8 * (k' : Int)).toNat 64 = 8 * k' by omega, wrap_u8, u64_fdiv _ _ hlt]
      refine ⟨by simp only [Nn]; omega, hst (by omega) hl h fun w' h => nx' k' _ _ _ hlt rfl ⟨?_, bs.set k' _, by simp [hl], ?_, ?_, h⟩⟩
      · rw [w64 (by omega) (by omega)]; simp
      · intro j hj
        rw [List.getElem?_set]
        split
        · rename_i e; subst e
          simp [hl, show k' < i by omega, num8, hlt]
        · exact h1 j (by omega)
      · intro j hj hj2
        rw [List.getElem?_set, if_neg (by omega)]
        exact h2 j (by omega) hj2
    · have hk' : k' = 8 := by omega
      subst hk'
      refine hst (i := 8) (c := k) (by omega) hl h fun w' h => ?_
      refine DoL.part el_bytes (bounds_h (by omega) (by omega)) ?_
      have e : bs.set 8 k = num8 no ++ [k] ++ List.replicate (i - 9) 238 := by
        apply List.ext_getElem?
        intro j
        rw [List.getElem?_set]
        by_cases hj : j < 8
        · rw [if_neg (by omega), h1 j hj, List.append_assoc, List.getElem?_append_left (by rw [num8_length]; omega)]
        · by_cases hj8 : j = 8
          · subst hj8
            rw [if_pos rfl, if_pos (by omega), List.append_assoc, List.getElem?_append_right (by rw [num8_length]; omega), num8_length]
            rfl
          · rw [if_neg (by omega), List.getElem?_append_right (by simp [num8_length]; omega)]
            simp only [List.length_append, num8_length, List.length_cons, List.length_nil]
            rw [List.getElem?_replicate]
            by_cases hji : j < i
            · rw [h2 j (by omega) hji, if_pos (by omega)]
            · rw [List.getElem?_eq_none (by omega), if_neg (by omega)]
      rw [e] at h
      have hlen : (bcells (num8 no ++ [k] ++ List.replicate (i - 9) 238)).length = i * 1 := by
        rw [← e, bcells_length]; simp [hl]
      have hQ := hk _ (Sat.toBuf hlen h)
      have e0 : ¬ i = 0 := by omega
      simpa [e0, add_mk] using hQ

end Go.Dv

/-! ideal: make, Hash, Derive -/
set_option maxRecDepth 20000
namespace Go.Dv
open Go Go.Sh Go.Sl

theorem zv_int (w : World) : (zeroValue t_int).run P w = .ok (.int .i64 0) w := by kernel_rfl
theorem zv_string (w : World) : (zeroValue t_string).run P w = .ok (.string (str [])) w := by kernel_rfl
theorem wd_arr32 : wide P t_arr32_uint8 = some 32 := by kernel_rfl
theorem zr_arr32 : zeros P t_arr32_uint8 = some (bcells (List.replicate 32 0)) := by kernel_rfl
theorem un_arr32 : P.underlying t_arr32_uint8 = some (.array 32 t_uint8) := by kernel_rfl

variable {B : Bs} {w : World} {F : List HP} {K : Value → World → Prop}

theorem nm_length (k : UInt8) (ps : List (List UInt8)) : (nm k ps).length = 1 + (8 * ps.length + ps.flatten.length) := by
  simp only [nm, List.length_append, parts_length, List.length_cons, List.length_nil]

theorem make_ok {b n m mc : Nat} {I : Id} {k : UInt8} {q : Option Addr} {vs : List Value} {ps : List (List UInt8)} (h : Sat B w (idl b I :: F)) (hr : Rds B q vs ps) (hm : m = ps.length) (hm2 : ps.length < 1000000) (hb : ps.flatten.length ≤ 1099511627776)
    (hn : 9 ≤ n) (hn2 : n ≤ 1099511627776) (hI : I.made.length < 1152921504606846976)
    (hk : ∀ p w', Sat B w' (buf t_uint8 1 p n n (bcells (thg k n ((I.put (nm k ps)).no (nm k ps)))) :: idl b (I.put (nm k ps)) :: F) → K (.slice p n n) w') :
    Cs P f_ideal_World_make #[.pointer (at0 b), .int .u8 (k.toNat : Int), .int .i64 (n : Int), .slice q m mc] w K := by
  refine ok_ideal_World_make _ _ _ _ _ _ ?_
  unfold vc_ideal_World_make
  refine name_ok h hr hm hm2 (by omega) fun w' h => ⟨_, rfl, ?_⟩
  have hnod := (Id.nodup h).1
  obtain ⟨⟨r1, r2⟩, h⟩ := h.opened
  have hnl := nm_length k ps
  generalize hs : nm k ps = s at *
  obtain ⟨kl, hkl⟩ := key_str (s := s) (by omega)
  refine NN.some ⟨_, ld1 sc_mapInt h.bk rfl, ?_⟩
  have rest : ∀ (no : Int) (w4 : World), no = (I.put s).no s → Sat B w4 (idl b (I.put s) :: F) → DoL P (Instr.makeSlice t_sl_uint8 (.int .i64 (mxI (n : Int) 9)) (.int .i64 (mxI (n : Int) 9))) w4 fun p3 l0 l1 w5 ↦
                        Lp [.int .i64 0] w5 fun K2 ↦
                          ∀ (n3 : Int) (l2 : Nat) (w6 : World),
                            K2 l2 [.int .i64 n3] w6 →
                              Br (ltI n3 (l0 : Int)) (Ix p3 l0 n3 1 fun a3 ↦ DoU P (storeVar t_uint8 a3 (.int .u8 238)) w6 fun w7 ↦ Nx K2 l2 [.int .i64 (IntKind.i64.wrap (n3 + 1))] w7)
                                (Lp [.int .i64 0] w6 fun K3 ↦
                                  ∀ (n4 : Int) (l3 : Nat) (w8 : World),
                                    K3 l3 [.int .i64 n4] w8 →
                                      Br (ltI n4 8)
                                        (Nn (IntKind.i64.wrap (8 * n4)) ∧
                                          Ix p3 l0 n4 1 fun a4 ↦
                                            DoU P (storeVar t_uint8 a4 (.int .u8 (IntKind.u8.wrap (Int.fdiv (IntKind.u64.wrap no) (2 ^ min (Int.toNat (IntKind.i64.wrap (8 * n4))) 64))))) w8 fun w9 ↦ Nx K3 l3 [.int .i64 (IntKind.i64.wrap (n4 + 1))] w9)
                                        (Ix p3 l0 8 1 fun a5 ↦ DoU P (storeVar t_uint8 a5 (.int .u8 (k.toNat : Int))) w8 fun w10 ↦ DoL P (Instr.sliceAt t_sl_uint8 (.slice p3 l0 l1) none (some (.int .i64 (n : Int))) none) w10 fun p4 l4 l5 w11 ↦ K (.slice p4 l4 l5) w11)) := by
    intro no w4 hno h
    have e9 : mxI (n : Int) 9 = n := by unfold mxI; split <;> omega
    rw [e9]
    refine h.make el_bytes zr_u8 rfl (by omega) fun a0 w' h => ?_
    refine thg_fill (Q := K) hn (by omega) h fun w' h => hk _ _ ?_
    rw [hno] at h
    exact h
  rcases (h.pull 1).lookup kl_string un_mapInt (zv_int _) hkl with ⟨hno, hrun⟩ | ⟨v, hv, hrun⟩
  · have hnot : s ∉ I.made := fun hin => by
      have : Value.string (str s) ∈ (madeKV I.made).map (·.1) := by rw [madeKV_fst]; exact List.mem_map.2 ⟨s, hin, rfl⟩
      obtain ⟨p, hp, e⟩ := List.mem_map.1 this
      exact hno p hp e
    refine ⟨0, false, _, hrun, ?_⟩
    refine Jn.by (fun vs w => vs = [.int .i64 ((I.put s).no s : Nat)] ∧ Sat B w (idl b (I.put s) :: F)) ?_ fun n2 w4 ⟨e, h⟩ => rest n2 w4 (by simpa using e) h
    refine Br.t (NN.some ⟨_, ld1 sc_mapInt h.bk rfl, ?_⟩)
    refine (h.pull 1).mapLen un_mapInt (NN.some ⟨_, ld1 sc_mapInt h.bk rfl, ?_⟩)
    have hlen : (madeKV I.made).length = I.made.length := by simp [madeKV]
    rw [hlen, w64 (by omega) (by omega)]
    refine (h.pull 1).mapUpdate kl_string un_mapInt hkl (fun _ w' h => ⟨?_, ?_⟩) fun j o hj => ?_
    · rw [Id.put_no I s hnot]; simp
    · rw [← madeKV_append] at h
      have e : I.put s = { I with made := I.made ++ [s] } := by simp [Id.put, hnot]
      rw [e]
      exact Sat.shut (f := fun r : Nat × Nat => [bk b t_ideal_World [.map (some r.1), .map (some r.2)], mp P t_string r.1 (madeKV (I.made ++ [s])), mp P t_string r.2 (textKV I.texts)]) (r1, r2) (h.pull 1)
    · exact absurd (List.mem_of_getElem? hj) (fun hm => hno _ hm rfl)
  · obtain ⟨i, hi, rfl⟩ := mem_madeKV hv
    have hin : s ∈ I.made := List.mem_of_getElem? hi
    have e : I.put s = I := by simp [Id.put, hin]
    refine ⟨_, true, _, hrun, ?_⟩
    refine Jn.by (fun vs w => vs = [.int .i64 ((I.put s).no s : Nat)] ∧ Sat B w (idl b (I.put s) :: F)) ?_ fun n2 w4 ⟨e, h⟩ => rest n2 w4 (by simpa using e) h
    refine Br.f ⟨?_, ?_⟩
    · rw [e, Id.no, idxOf_of hnod hi]; simp
    · rw [e]
      exact Sat.shut (f := fun r : Nat × Nat => [bk b t_ideal_World [.map (some r.1), .map (some r.2)], mp P t_string r.1 (madeKV I.made), mp P t_string r.2 (textKV I.texts)]) (r1, r2) h

/-- A digest. -/
def Id.hash (I : Id) (t : List UInt8) : Id := I.put (nm 72 [t])
def Id.dig (I : Id) (t : List UInt8) : List UInt8 := thg 72 32 ((I.hash t).no (nm 72 [t]))
def Id.derive (I : Id) (key t : List UInt8) : Id := I.put (nm 68 [key, t])
def Id.key (I : Id) (key t : List UInt8) : List UInt8 := thg 68 32 ((I.derive key t).no (nm 68 [key, t]))

/-- An array of bytes, as a value. -/
def arr (l : List UInt8) : Value := .agg (bcells l).toArray

theorem ones_arr (l : List UInt8) : ones (bcells l) := ones_bcells l

theorem IHash_ok {b m mc : Nat} {I : Id} {q : Option Addr} {vs : List Value} {ps : List (List UInt8)} (h : Sat B w (idl b I :: F)) (hr : Rds B q vs ps) (hm : m = ps.length) (hm2 : ps.length < 1000000) (hb : ps.flatten.length ≤ 1099511627776)
    (hI : I.made.length < 1152921504606846976)
    (hk : ∀ w', Sat B w' (idl b (I.hash ps.flatten) :: F) → K (arr (I.dig ps.flatten)) w') :
    Cs P f_ideal_World_Hash #[.pointer (at0 b), .slice q m mc] w K := by
  refine ok_ideal_World_Hash _ _ _ _ ?_
  unfold vc_ideal_World_Hash
  refine h.var zr_arr32 fun b0 w' h => ?_
  refine Br.f (joined_ok h hr hm hm2 (by omega) fun p c w' h => ⟨_, _, _, rfl, ?_⟩)
  obtain ⟨B', hle, h, hr2, _⟩ := h.fix
  refine h.build1 el_pieces rfl fun p2 w' h => ?_
  obtain ⟨B2, hle2, h, hr3, _⟩ := h.fix
  refine make_ok (k := 72) (n := 32) (ps := [ps.flatten]) (h.pull 1) (Rds.one hr3 (SlOf.mk (hr2.mono hle2) rfl)) rfl (by simp) (by simpa using hb) (by omega) (by omega) hI fun p w' h => ⟨_, _, _, rfl, ?_⟩
  obtain ⟨B3, hle3, h, hr4, _⟩ := h.fix
  have hl : (bcells (thg 72 32 ((I.put (nm 72 [ps.flatten])).no (nm 72 [ps.flatten])))).length = 32 := by rw [bcells_length, thg_length (by omega)]
  refine hr4.arr h un_arr32 wd_arr32 (by omega) hl (by omega) fun a hld => ⟨_, hld, ?_⟩
  refine Sat.stA (n := 32) (h.pull 1) wd_arr32 hl (ones_arr _) (by simp [bcells]) fun w' h => ⟨_, ldA (n := 32) wd_arr32 h.bk (by simp [hl, bcells_length]), ?_⟩
  have e : ((List.take 0 (bcells (List.replicate 32 0)) ++ bcells (thg 72 32 ((I.put (nm 72 [ps.flatten])).no (nm 72 [ps.flatten]))) ++ List.drop (0 + 32) (bcells (List.replicate 32 0))).drop 0).take 32 = bcells (thg 72 32 ((I.put (nm 72 [ps.flatten])).no (nm 72 [ps.flatten]))) := by
    simp only [List.take_zero, List.nil_append, List.drop_zero]
    exact List.take_left' hl
  rw [e]
  exact hk _ ((((h.tail).thaw hle3).thaw hle2).thaw hle)

end Go.Dv

/-! ideal: Derive, Seal, Open -/
set_option maxRecDepth 20000
namespace Go.Dv
open Go Go.Sh Go.Sl

variable {B : Bs} {w : World} {F : List HP} {K : Value → World → Prop}

theorem IDerive_ok {b m mc kl kc : Nat} {I : Id} {kp q : Option Addr} {key : List UInt8} {vs : List Value} {ps : List (List UInt8)} (h : Sat B w (idl b I :: F)) (hkr : Rd B kp (bcells key)) (hkl : kl = key.length) (hr : Rds B q vs ps) (hm : m = ps.length) (hm2 : ps.length < 1000000) (hb : key.length + ps.flatten.length ≤ 1099511627776)
    (hI : I.made.length < 1152921504606846976)
    (hk : ∀ w', Sat B w' (idl b (I.derive key ps.flatten) :: F) → K (arr (I.key key ps.flatten)) w') :
    Cs P f_ideal_World_Derive #[.pointer (at0 b), .slice kp kl kc, .slice q m mc] w K := by
  subst hkl
  refine ok_ideal_World_Derive _ _ _ _ _ _ _ ?_
  unfold vc_ideal_World_Derive
  refine h.var zr_arr32 fun b0 w' h => ?_
  refine Br.f (joined_ok h hr hm hm2 (by omega) fun p c w' h => ⟨_, _, _, rfl, ?_⟩)
  obtain ⟨B', hle, h, hr2, _⟩ := h.fix
  refine h.build2 el_pieces rfl rfl fun p2 w' h => ?_
  obtain ⟨B2, hle2, h, hr3, _⟩ := h.fix
  refine make_ok (k := 68) (n := 32) (ps := [key, ps.flatten]) (h.pull 1) (Rds.two hr3 (SlOf.mk ((hkr.mono hle).mono hle2) rfl) (SlOf.mk (hr2.mono hle2) rfl)) rfl (by simp) (by simpa using hb) (by omega) (by omega) hI fun p w' h => ⟨_, _, _, rfl, ?_⟩
  obtain ⟨B3, hle3, h, hr4, _⟩ := h.fix
  have hl : (bcells (I.key key ps.flatten)).length = 32 := by rw [bcells_length, Id.key, thg_length (by omega)]
  refine hr4.arr h un_arr32 wd_arr32 (by omega) hl (by omega) fun a hld => ⟨_, hld, ?_⟩
  refine Sat.stA (n := 32) (h.pull 1) wd_arr32 hl (ones_arr _) (by simp [bcells]) fun w' h => ⟨_, ldA (n := 32) wd_arr32 h.bk (by simp [bcells_length, thg_length (show 9 ≤ 32 by omega)]), ?_⟩
  have e : ((List.take 0 (bcells (List.replicate 32 0)) ++ bcells (I.key key ps.flatten) ++ List.drop (0 + 32) (bcells (List.replicate 32 0))).drop 0).take 32 = bcells (I.key key ps.flatten) := by
    simp only [List.take_zero, List.nil_append, List.drop_zero]
    exact List.take_left' hl
  exact e ▸ hk _ ((((h.tail).thaw hle3).thaw hle2).thaw hle)

/-- A text is put under a name. -/
def setT (a t : List UInt8) : List (List UInt8 × List UInt8) → List (List UInt8 × List UInt8)
  | [] => [(a, t)]
  | (x, y) :: l => if x = a then (a, t) :: l else (x, y) :: setT a t l

theorem setT_absent {a t : List UInt8} : ∀ {l : List (List UInt8 × List UInt8)}, (∀ p ∈ l, p.1 ≠ a) → setT a t l = l ++ [(a, t)]
  | [], _ => rfl
  | (x, y) :: l, h => by
    have h1 : x ≠ a := h (x, y) (by simp)
    simp [setT, h1, setT_absent (l := l) fun p hp => h p (by simp [hp])]

theorem setT_present {a t : List UInt8} : ∀ {l : List (List UInt8 × List UInt8)} {j : Nat} {o : List UInt8}, (l.map (·.1)).Nodup → l[j]? = some (a, o) → setT a t l = l.set j (a, t)
  | (x, y) :: l, 0, o, _, h => by
    simp only [List.getElem?_cons_zero, Option.some.injEq, Prod.mk.injEq] at h
    obtain ⟨rfl, rfl⟩ := h
    simp [setT]
  | (x, y) :: l, j + 1, o, hn, h => by
    simp only [List.getElem?_cons_succ] at h
    rw [List.map_cons, List.nodup_cons] at hn
    have hne : x ≠ a := fun e => hn.1 (List.mem_map.2 ⟨(a, o), List.mem_of_getElem? h, e.symm⟩)
    simp [setT, hne, setT_present hn.2 h]

theorem mem_setT {a t : List UInt8} : ∀ {l : List (List UInt8 × List UInt8)}, (a, t) ∈ setT a t l
  | [] => by simp [setT]
  | (x, y) :: l => by
    unfold setT
    split
    · simp
    · exact List.mem_cons_of_mem _ mem_setT

theorem mem_setT_of {a t : List UInt8} {p : List UInt8 × List UInt8} : ∀ {l : List (List UInt8 × List UInt8)}, p ∈ setT a t l → p = (a, t) ∨ (p ∈ l ∧ True)
  | [], h => by simp [setT] at h; exact .inl h
  | (x, y) :: l, h => by
    unfold setT at h
    split at h
    · rcases List.mem_cons.1 h with h | h
      · exact .inl h
      · exact .inr ⟨List.mem_cons_of_mem _ h, trivial⟩
    · rcases List.mem_cons.1 h with h | h
      · exact .inr ⟨by simp [h], trivial⟩
      · rcases mem_setT_of h with h | ⟨h, _⟩
        · exact .inl h
        · exact .inr ⟨List.mem_cons_of_mem _ h, trivial⟩

theorem setT_keeps {a t x y : List UInt8} (hne : x ≠ a) : ∀ {l : List (List UInt8 × List UInt8)}, (x, y) ∈ l → (x, y) ∈ setT a t l
  | (u, v) :: l, h => by
    unfold setT
    split
    · rename_i e
      rcases List.mem_cons.1 h with h | h
      · cases h; exact absurd e hne
      · exact List.mem_cons_of_mem _ h
    · rcases List.mem_cons.1 h with h | h
      · rw [h]; exact List.mem_cons_self
      · exact List.mem_cons_of_mem _ (setT_keeps hne h)

/-- A sealT: its bytes, and the world behind it. -/
def Id.sealed (I : Id) (key nonce known t : List UInt8) : List UInt8 := thg 83 (t.length + 16) ((I.put (nm 83 [key, nonce, known, t])).no (nm 83 [key, nonce, known, t]))
def Id.sealT (I : Id) (key nonce known t : List UInt8) : Id :=
  { made := (I.put (nm 83 [key, nonce, known, t])).made, texts := setT (nm 83 [key, nonce, known, I.sealed key nonce known t]) t (I.put (nm 83 [key, nonce, known, t])).texts }

theorem Id.put_texts (I : Id) (s : List UInt8) : (I.put s).texts = I.texts := by unfold Id.put; split <;> rfl

theorem textKV_set (l : List (List UInt8 × List UInt8)) (j : Nat) (a t : List UInt8) : (textKV l).set j (.string (str a), .string (str t)) = textKV (l.set j (a, t)) := by simp [textKV, List.map_set]

theorem mem_textKV {l : List (List UInt8 × List UInt8)} {a : List UInt8} {v : Value} (h : (.string (str a), v) ∈ textKV l) : ∃ t, (a, t) ∈ l ∧ v = .string (str t) := by
  simp only [textKV, List.mem_map] at h
  obtain ⟨⟨x, t⟩, h1, h2⟩ := h
  simp only [Prod.mk.injEq, Value.string.injEq] at h2
  obtain ⟨h3, rfl⟩ := h2
  have := str_inj h3
  subst this
  exact ⟨t, h1, rfl⟩

theorem ISeal_ok {b m mc kl kc nl nc tl tc : Nat} {I : Id} {kp np tp q : Option Addr} {key nonce t : List UInt8} {vs : List Value} {ps : List (List UInt8)} (h : Sat B w (idl b I :: F)) (hkr : Rd B kp (bcells key)) (hkl : kl = key.length) (hnr : Rd B np (bcells nonce)) (hnl : nl = nonce.length) (htr : Rd B tp (bcells t)) (htl : tl = t.length)
    (hr : Rds B q vs ps) (hm : m = ps.length) (hm2 : ps.length < 1000000) (hkb : key.length ≤ 1048576) (hnb : nonce.length ≤ 1048576) (htb : t.length ≤ 1048576) (hb : ps.flatten.length ≤ 1048576)
    (hI : I.made.length < 1152921504606846976)
    (hk : ∀ p w', Sat B w' (buf t_uint8 1 p (t.length + 16) (t.length + 16) (bcells (I.sealed key nonce ps.flatten t)) :: idl b (I.sealT key nonce ps.flatten t) :: F) → K (.tuple #[.slice p (t.length + 16) (t.length + 16), .int .i64 0]) w') :
    Cs P f_ideal_World_Seal #[.pointer (at0 b), .slice kp kl kc, .slice np nl nc, .slice tp tl tc, .slice q m mc] w K := by
  subst hkl hnl htl
  refine ok_ideal_World_Seal _ _ _ _ _ _ _ _ _ _ _ _ _ ?_
  unfold vc_ideal_World_Seal
  refine Br.f (joined_ok h hr hm hm2 (by omega) fun p c w' h => ⟨_, _, _, rfl, ?_⟩)
  obtain ⟨B', hle, h, hr2, _⟩ := h.fix
  have g1 : gtI (t.length : Int) 1048576 = false := by simp only [gtI, decide_eq_false_iff_not]; omega
  have g2 : gtI (ps.flatten.length : Int) 1048576 = false := by simp only [gtI, decide_eq_false_iff_not]; omega
  rw [g1, g2]
  refine Jn.dupB (Br.f ⟨_, rfl, Br.f ?_⟩)
  refine h.build4 el_pieces rfl rfl rfl rfl fun p2 w' h => ?_
  obtain ⟨B2, hle2, h, hr3, _⟩ := h.fix
  have hk2 := (hkr.mono hle).mono hle2
  have hn2 := (hnr.mono hle).mono hle2
  have ht2 := (htr.mono hle).mono hle2
  have hj2 := hr2.mono hle2
  rw [w64 (x := (t.length : Int) + 16) (by omega) (by omega), show (t.length : Int) + 16 = ((t.length + 16 : Nat) : Int) by omega]
  refine make_ok (k := 83) (n := t.length + 16) (ps := [key, nonce, ps.flatten, t]) h (Rds.four hr3 (SlOf.mk hk2 rfl) (SlOf.mk hn2 rfl) (SlOf.mk hj2 rfl) (SlOf.mk ht2 rfl)) rfl (by simp) (by simp only [List.flatten_cons, List.flatten_nil, List.length_append, List.length_nil]; omega) (by omega) (by omega) hI fun p3 w' h => ⟨_, _, _, rfl, ?_⟩
  obtain ⟨B3, hle3, h, hr4, _, back⟩ := h.lend
  intro w'' ha
  have h := h.alk ha
  have hnod := (Id.nodup h).2
  obtain ⟨⟨r1, r2⟩, h⟩ := h.opened
  refine NN.some ⟨_, ld1 sc_mapStr h.bk rfl, _, Rd.strRun h (ht2.mono hle3) rfl un_bytes un_u8 un_string, ?_⟩
  refine h.build4 el_pieces rfl rfl rfl rfl fun p4 w' h => ?_
  obtain ⟨B4, hle4, h, hr5, _⟩ := h.fix
  refine ⟨⟨Rd.strRun h ((ht2.mono hle3).mono hle4) rfl un_bytes un_u8 un_string, ld1 sc_mapStr h.bk rfl, trivial⟩, ?_⟩
  have hsl : (I.sealed key nonce ps.flatten t).length = t.length + 16 := thg_length (by omega)
  refine name_ok (k := 83) (ps := [key, nonce, ps.flatten, I.sealed key nonce ps.flatten t]) h (Rds.four hr5 (SlOf.mk ((hk2.mono hle3).mono hle4) rfl) (SlOf.mk ((hn2.mono hle3).mono hle4) rfl) (SlOf.mk ((hj2.mono hle3).mono hle4) rfl) (SlOf.mk (hr4.mono hle4) (by rw [hsl]))) rfl (by simp) (by simp only [List.flatten_cons, List.flatten_nil, List.length_append, List.length_nil, hsl]; omega) fun w' h => ⟨_, rfl, ?_⟩
  refine ⟨⟨Rd.strRun h ((ht2.mono hle3).mono hle4) rfl un_bytes un_u8 un_string, ld1 sc_mapStr h.bk rfl, trivial⟩, ?_⟩
  obtain ⟨kl, hkl⟩ := key_str (s := nm 83 [key, nonce, ps.flatten, I.sealed key nonce ps.flatten t]) (by rw [nm_length]; simp only [List.flatten_cons, List.flatten_nil, List.length_append, List.length_nil, List.length_cons, hsl]; omega)
  have fin : ∀ w', Sat B4 w' (mp P t_string r2 (textKV (setT (nm 83 [key, nonce, ps.flatten, I.sealed key nonce ps.flatten t]) t (I.put (nm 83 [key, nonce, ps.flatten, t])).texts)) :: bk b t_ideal_World [.map (some r1), .map (some r2)] :: mp P t_string r1 (madeKV (I.put (nm 83 [key, nonce, ps.flatten, t])).made) :: F) → K (.tuple #[.slice p3 (t.length + 16) (t.length + 16), .int .i64 0]) w' := by
    intro w' h
    refine hk _ _ ((Sat.thaw hle (Sat.thaw hle2 (back _ _ (Sat.thaw hle4 ?_)))))
    exact Sat.shut (f := fun r : Nat × Nat => [bk b t_ideal_World [.map (some r.1), .map (some r.2)], mp P t_string r.1 (madeKV (I.sealT key nonce ps.flatten t).made), mp P t_string r.2 (textKV (I.sealT key nonce ps.flatten t).texts)]) (r1, r2) ((h.pull 1).pull 2 |>.pull 1 |>.pull 2 |>.pull 1 |>.pull 2 |>.pull 1)
  refine (h.pull 2).mapUpdate kl_string un_mapStr hkl (fun hno w' h => fin _ ?_) fun j o hj w' h => fin _ ?_
  · rw [setT_absent]
    · simpa [textKV] using h
    · intro p hp e
      refine hno (.string (str p.1), .string (str p.2)) ?_ (by rw [e])
      exact List.mem_map.2 ⟨p, hp, rfl⟩
  · have hj' : ∃ o', (I.put (nm 83 [key, nonce, ps.flatten, t])).texts[j]? = some (nm 83 [key, nonce, ps.flatten, I.sealed key nonce ps.flatten t], o') := by
      simp only [textKV, List.getElem?_map, Option.map_eq_some_iff] at hj
      obtain ⟨⟨x, y⟩, h1, h2⟩ := hj
      simp only [Prod.mk.injEq, Value.string.injEq] at h2
      rw [str_inj h2.1] at h1
      exact ⟨y, h1⟩
    obtain ⟨o', hj'⟩ := hj'
    rw [setT_present hnod hj', ← textKV_set]
    exact h

end Go.Dv

/-! ideal.Open; the vault's keys -/
set_option maxRecDepth 20000
namespace Go.Dv
open Go Go.Sh Go.Sl
open Go.WideMaps (KeyLaw)

variable {B : Bs} {w : World} {F : List HP} {K : Value → World → Prop}

theorem IOpen_ok {b m mc kl kc nl nc tl tc : Nat} {I : Id} {kp np tp q : Option Addr} {key nonce t : List UInt8} {vs : List Value} {ps : List (List UInt8)} (h : Sat B w (idl b I :: F)) (hkr : Rd B kp (bcells key)) (hkl : kl = key.length) (hnr : Rd B np (bcells nonce)) (hnl : nl = nonce.length) (htr : Rd B tp (bcells t)) (htl : tl = t.length)
    (hr : Rds B q vs ps) (hm : m = ps.length) (hm2 : ps.length < 1000000) (hkb : key.length ≤ 1048576) (hnb : nonce.length ≤ 1048576) (htb : t.length ≤ 1048592) (hb : ps.flatten.length ≤ 1048576)
    (hk1 : ∀ x, (nm 83 [key, nonce, ps.flatten, t], x) ∈ I.texts → ∀ B' p c w', B.le B' → Sat B' w' (idl b I :: F) → Rd B' p (bcells x) → K (.tuple #[.slice p x.length c, .int .i64 0]) w')
    (hk2 : (∀ x, (nm 83 [key, nonce, ps.flatten, t], x) ∉ I.texts) → ∀ w', Sat B w' (idl b I :: F) → K (.tuple #[.slice none 0 0, .int .i64 9]) w') :
    Cs P f_ideal_World_Open #[.pointer (at0 b), .slice kp kl kc, .slice np nl nc, .slice tp tl tc, .slice q m mc] w K := by
  subst hkl hnl htl
  refine ok_ideal_World_Open _ _ _ _ _ _ _ _ _ _ _ _ _ ?_
  unfold vc_ideal_World_Open
  refine Br.f fun w0 ha => ?_
  have h := h.alk ha
  obtain ⟨⟨r1, r2⟩, h⟩ := h.opened
  refine NN.some ⟨_, ld1 sc_mapStr h.bk rfl, ?_⟩
  refine joined_ok h hr hm hm2 (by omega) fun p c w' h => ⟨_, _, _, rfl, ?_⟩
  obtain ⟨B', hle, h, hr2, _⟩ := h.fix
  refine ⟨⟨ld1 sc_mapStr h.bk rfl, trivial⟩, ?_⟩
  refine h.build4 el_pieces rfl rfl rfl rfl fun p2 w' h => ?_
  obtain ⟨B2, hle2, h, hr3, _⟩ := h.fix
  refine ⟨⟨ld1 sc_mapStr h.bk rfl, trivial⟩, ?_⟩
  refine name_ok (k := 83) (ps := [key, nonce, ps.flatten, t]) h (Rds.four hr3 (SlOf.mk ((hkr.mono hle).mono hle2) rfl) (SlOf.mk ((hnr.mono hle).mono hle2) rfl) (SlOf.mk (hr2.mono hle2) rfl) (SlOf.mk ((htr.mono hle).mono hle2) rfl)) rfl (by simp) (by simp only [List.flatten_cons, List.flatten_nil, List.length_append, List.length_nil]; omega) fun w' h => ⟨_, rfl, ?_⟩
  refine ⟨⟨ld1 sc_mapStr h.bk rfl, trivial⟩, ?_⟩
  obtain ⟨kl, hkl⟩ := key_str (s := nm 83 [key, nonce, ps.flatten, t]) (by rw [nm_length]; simp only [List.flatten_cons, List.flatten_nil, List.length_append, List.length_nil, List.length_cons]; omega)
  have shut : ∀ {B w' F'}, Sat B w' ([bk b t_ideal_World [.map (some r1), .map (some r2)], mp P t_string r1 (madeKV I.made), mp P t_string r2 (textKV I.texts)] ++ F') → Sat B w' (idl b I :: F') := fun h => Sat.shut (f := fun r : Nat × Nat => [bk b t_ideal_World [.map (some r.1), .map (some r.2)], mp P t_string r.1 (madeKV I.made), mp P t_string r.2 (textKV I.texts)]) (r1, r2) h
  have hnod := (Id.nodup (shut h)).2
  rcases (h.pull 2).lookup kl_string un_mapStr (zv_string _) hkl with ⟨hno, hrun⟩ | ⟨v, hv, hrun⟩
  · refine ⟨_, _, hrun, Br.t ?_⟩
    refine hk2 (fun x hx => ?_) _ (shut ((h.thaw hle2).thaw hle))
    exact hno (.string (str (nm 83 [key, nonce, ps.flatten, t])), .string (str x)) (List.mem_map.2 ⟨_, hx, rfl⟩) rfl
  · obtain ⟨x, hx, rfl⟩ := mem_textKV hv
    refine ⟨_, _, hrun, Br.f ?_⟩
    refine h.bytesOf un_string un_bytes un_u8 fun B3 p c w' hle3 h hrx => ?_
    exact hk1 x hx B3 p c w' ((hle.trans hle2).trans hle3) (shut h) hrx

/-! ### keys of the vault's own map -/

theorem mapM_some {α β : Type} {f : α → Option β} {g : α → β} : ∀ {l : List α}, (∀ x ∈ l, f x = some (g x)) → l.mapM f = some (l.map g)
  | [], _ => rfl
  | a :: l, h => by
    rw [List.mapM_cons, h a (by simp)]
    have := mapM_some (l := l) fun x hx => h x (by simp [hx])
    simp [this]

theorem wf_byte (c : UInt8) : (Lit.int .u8 (c.toNat : Int)).wf = true := by
  have := c.toNat_lt
  simp only [Lit.wf, Bool.and_eq_true, decide_eq_true_eq]
  have h1 : IntKind.u8.min = 0 := rfl
  have h2 : IntKind.u8.max = 255 := rfl
  omega

theorem keyLits_step {d t n e : Nat} {cs : List Value} (hu : P.underlying t = some (.array n e)) :
    P.keyLits (d + 1) t cs = if cs.length = P.cellsOf t then ((List.range n).mapM fun i => P.keyLits d e ((cs.drop (i * P.cellsOf e)).take (P.cellsOf e))).map List.flatten else none := by
  rw [Program.keyLits.eq_def]
  simp only [hu]

theorem keyLits_stepS {d t : Nat} {fs : Array Field} {cs : List Value} (hu : P.underlying t = some (.struct fs)) :
    P.keyLits (d + 1) t cs = if cs.length = P.cellsOf t ∧ fs.all (·.name != "_") = true then (fs.toList.mapM fun f => P.keyLits d f.type ((cs.drop f.offset).take (P.cellsOf f.type))).map List.flatten else none := by
  rw [Program.keyLits.eq_def]
  simp only [hu]

theorem keyLits_arr {t e n d : Nat} {l : List UInt8} (hu : P.underlying t = some (.array n e)) (he : P.underlying e = some (.int .u8)) (ht : P.cellsOf t = n) (hc : P.cellsOf e = 1) (hl : l.length = n) :
    P.keyLits (d + 2) t (bcells l) = some (l.map fun c => Lit.int .u8 (c.toNat : Int)) := by
  have h1 : ∀ i ∈ List.range n, P.keyLits (d + 1) e (((bcells l).drop (i * P.cellsOf e)).take (P.cellsOf e)) = some [Lit.int .u8 ((l.getD i 0).toNat : Int)] := by
    intro i hi
    have hi : i < l.length := by rw [hl]; simpa using hi
    rw [hc, Nat.mul_one]
    have : ((bcells l).drop i).take 1 = [bcell l[i]] := by
      rw [List.drop_eq_getElem_cons (by rw [bcells_length]; exact hi)]
      simp [bcells]
    rw [this]
    simp [Program.keyLits, he, bcell, wf_byte, hi]
  rw [keyLits_step hu, bcells_length, hl, ht, if_pos rfl, mapM_some h1]
  simp only [Option.map_some, Option.some.injEq]
  apply List.ext_getElem?
  intro i
  have : (List.map (fun i => [Lit.int .u8 ((l.getD i 0).toNat : Int)]) (List.range n)).flatten = (List.range n).map fun i => Lit.int .u8 ((l.getD i 0).toNat : Int) := by
    generalize List.range n = L
    induction L with
    | nil => rfl
    | cons a L ih => rw [List.map_cons, List.flatten_cons, ih]; rfl
  rw [this]
  simp only [List.getElem?_map]
  by_cases hi : i < l.length
  · rw [List.getElem?_range (by omega), List.getElem?_eq_getElem hi]; simp [hi]
  · rw [List.getElem?_eq_none (by simp; omega), List.getElem?_eq_none (by omega)]; rfl

theorem laid : laidOutB P = true := by kernel_rfl
theorem kl_place : KeyLaw P t_vault_place := deep_law_laid laid (m := 4) (by omega) (of_decide_eq_true (by kernel_rfl)) (by kernel_rfl) (by kernel_rfl)

/-- The fields of a struct: their types and places. -/
def flds (fs : Array Field) : List (Nat × Nat) := fs.toList.map fun f => (f.type, f.offset)
theorem un_place : ∃ fs, P.underlying t_vault_place = some (.struct fs) ∧ fs.all (·.name != "_") = true ∧ flds fs = [(t_vault_Key, 0), (t_arr12_uint8, 32)] := by
  refine ⟨((match P.underlying t_vault_place with | some (.struct fs) => fs | _ => #[])), ?_, ?_, ?_⟩ <;> kernel_rfl

theorem key_place {k n : List UInt8} (hk : k.length = 32) (hn : n.length = 12) : ∃ l, keyOf P t_vault_place (arr (k ++ n)) = some l := by
  obtain ⟨fs, hu, hall, hf⟩ := un_place
  have hc44 : P.cellsOf t_vault_place = 44 := by kernel_rfl
  have hkt : P.keyType t_vault_place = true := by kernel_rfl
  obtain ⟨d, hd⟩ : ∃ d, P.types.size = d + 3 := ⟨P.types.size - 3, by
    have : 3 < P.types.size := of_decide_eq_true (by kernel_rfl)
    omega⟩
  have h0 : P.keyLits (P.types.size + 1) t_vault_place (bcells (k ++ n)) = some ((k.map fun c => Lit.int .u8 (c.toNat : Int)) ++ (n.map fun c => Lit.int .u8 (c.toNat : Int))) := by
    rw [hd, keyLits_stepS hu, if_pos ⟨by rw [bcells_length, hc44]; simp [hk, hn], hall⟩]
    have e1 : (fs.toList.mapM fun f => P.keyLits (d + 3) f.type (((bcells (k ++ n)).drop f.offset).take (P.cellsOf f.type))) = (flds fs).mapM fun x => P.keyLits (d + 3) x.1 (((bcells (k ++ n)).drop x.2).take (P.cellsOf x.1)) := by
      unfold flds
      generalize fs.toList = L
      induction L with
      | nil => rfl
      | cons f L ih => simp only [List.map_cons, List.mapM_cons, ih]
    have c1 : P.cellsOf t_vault_Key = 32 := by kernel_rfl
    have c2 : P.cellsOf t_arr12_uint8 = 12 := by kernel_rfl
    have c3 : P.cellsOf t_uint8 = 1 := by kernel_rfl
    have u1 : P.underlying t_vault_Key = some (.array 32 t_uint8) := by kernel_rfl
    have u2 : P.underlying t_arr12_uint8 = some (.array 12 t_uint8) := by kernel_rfl
    have t1 : ((bcells (k ++ n)).drop 0).take 32 = bcells k := by rw [List.drop_zero, bcells_append]; exact List.take_left' (by rw [bcells_length, hk])
    have t2 : ((bcells (k ++ n)).drop 32).take 12 = bcells n := by rw [bcells_append, List.drop_left' (by rw [bcells_length, hk])]; exact List.take_of_length_le (by rw [bcells_length]; omega)
    rw [e1, hf]
    simp only [List.mapM_cons, List.mapM_nil, c1, c2, t1, t2]
    rw [show d + 3 = (d + 1) + 2 by omega, keyLits_arr u1 un_u8 c1 c3 hk, keyLits_arr u2 un_u8 c2 c3 hn]
    simp
  refine ⟨.string (keyBytes ((k.map fun c => Lit.int .u8 (c.toNat : Int)) ++ (n.map fun c => Lit.int .u8 (c.toNat : Int)))), ?_⟩
  have hfm : (arr (k ++ n)).formed P t_vault_place = true := by
    simp only [arr, Value.formed, hu, hc44, List.size_toArray, bcells_length, List.length_append, hk, hn]
    rfl
  unfold keyOf
  rw [hu]
  simp only [hkt, hfm, Bool.and_self, if_true]
  have : (arr (k ++ n)).cells.toList = bcells (k ++ n) := rfl
  rw [this, h0]
  rfl

end Go.Dv

/-! the vault: nonce, may, Key, Hash -/
set_option maxRecDepth 20000
namespace Go.Dv
open Go Go.Sh Go.Sl

theorem zr_arr12 : zeros P t_arr12_uint8 = some (bcells (List.replicate 12 0)) := by kernel_rfl
theorem wd_arr12 : wide P t_arr12_uint8 = some 12 := by kernel_rfl
theorem wd_Key : wide P t_vault_Key = some 32 := by kernel_rfl
theorem zr_Key : zeros P t_vault_Key = some (bcells (List.replicate 32 0)) := by kernel_rfl
theorem un_Key : P.underlying t_vault_Key = some (.array 32 t_uint8) := by kernel_rfl
theorem un_arr12 : P.underlying t_arr12_uint8 = some (.array 12 t_uint8) := by kernel_rfl
theorem sz_u8 : (P.info? t_uint8).map (·.size) = some 1 := by kernel_rfl
theorem sc_backend : scal P t_vault_backend = true := by kernel_rfl
theorem sc_mapPlace : scal P t_map_vault_place_string = true := by kernel_rfl
theorem un_mapPlace : P.underlying t_map_vault_place_string = some (.map t_vault_place t_string) := by kernel_rfl
theorem cm_Derive (p : Option Addr) (a b : Value) (w : World) : (callMethod (.iface t_p_ideal_World (.pointer p)) "Derive" #[a, b]).run P w = .ok (.enter f_ideal_World_Derive #[.pointer p, a, b]) w := by kernel_rfl
theorem cm_Hash (p : Option Addr) (a : Value) (w : World) : (callMethod (.iface t_p_ideal_World (.pointer p)) "Hash" #[a]).run P w = .ok (.enter f_ideal_World_Hash #[.pointer p, a]) w := by kernel_rfl
theorem cm_Seal (p : Option Addr) (a b c d : Value) (w : World) : (callMethod (.iface t_p_ideal_World (.pointer p)) "Seal" #[a, b, c, d]).run P w = .ok (.enter f_ideal_World_Seal #[.pointer p, a, b, c, d]) w := by kernel_rfl
theorem cm_Open (p : Option Addr) (a b c d : Value) (w : World) : (callMethod (.iface t_p_ideal_World (.pointer p)) "Open" #[a, b, c, d]).run P w = .ok (.enter f_ideal_World_Open #[.pointer p, a, b, c, d]) w := by kernel_rfl

variable {B : Bs} {w : World} {F : List HP} {K : Value → World → Prop}

/-- The nonce of an epoch and a number. -/
def nonceB (e s : Int) : List UInt8 := (num8 e).take 4 ++ num8 s
theorem nonceB_length (e s : Int) : (nonceB e s).length = 12 := by simp [nonceB, num8_length]

theorem fdiv_by (n : Int) (i : Nat) : by8 (Int.fdiv n (2 ^ (8 * i))) = by8 (n / 2 ^ (8 * i)) := by
  rw [Int.fdiv_eq_ediv_of_nonneg _ (Int.le_of_lt (Int.pow_pos (by omega)))]

theorem nonce_ok {e s : Int} (h : Sat B w F) (hk : ∀ w', Sat B w' F → K (arr (nonceB e s)) w') : Cs P f_vault_nonce #[.int .i64 e, .int .i64 s] w K := by
  refine ok_vault_nonce _ _ ?_
  unfold vc_vault_nonce
  refine h.var zr_arr12 fun b0 w' h => ?_
  refine h.var zr_arr12 fun b1 w' h => ?_
  have hst : ∀ {i : Nat} {bs : List UInt8} {c : UInt8} {w : World} {G : World → Prop}, i < 12 → bs.length = 12 → Sat B w (bk b1 t_arr12_uint8 (bcells bs) :: bk b0 t_arr12_uint8 (bcells (List.replicate 12 0)) :: F) → (∀ w', Sat B w' (bk b1 t_arr12_uint8 (bcells (bs.set i c)) :: bk b0 t_arr12_uint8 (bcells (List.replicate 12 0)) :: F) → G w') →
      Ix (at0 b1) 12 (i : Int) 1 fun a3 ↦ DoU P (storeVar t_uint8 a3 (bcell c)) w fun w7 ↦ G w7 := by
    intro i bs c w G hi hl h hk
    refine Ix.mk (by omega) (by omega) ?_
    rw [add_mk]
    refine Sat.st1 h sc_u8 rfl (by rw [bcells_length]; simp; omega) fun w' h => hk w' ?_
    rw [← bcells_set]
    simpa using h
  refine Lp.up 4 (fun i vs w => vs = [.int .i64 i] ∧ ∃ bs : List UInt8, bs.length = 12 ∧ (∀ j, j < i → bs[j]? = (num8 e)[j]?) ∧ Sat B w (bk b1 t_arr12_uint8 (bcells bs) :: bk b0 t_arr12_uint8 (bcells (List.replicate 12 0)) :: F)) ⟨rfl, _, by simp, by simp, h⟩ fun I nx cs => ?_
  intro n0 l0 w2 hI
  obtain ⟨i, hi, rfl, hv, bs, hl, h1, h2⟩ := cs _ _ _ hI
  obtain rfl : n0 = (i : Int) := by simpa using hv
  refine Br.lt (fun hlt => ?_) (fun hge => ?_)
  · have hlt : i < 4 := by omega
    rw [w64 (x := 8 * (i : Int)) (by omega) (by omega), show min (8 * (i : Int)).toNat 64 = 8 * i by omega, wrap_u8, fdiv_by]
    refine ⟨by simp only [Nn]; omega, hst (by omega) hl h2 fun w' h => nx i _ _ _ hlt rfl ⟨?_, bs.set i _, by simp [hl], ?_, h⟩⟩
    · rw [w64 (by omega) (by omega)]; simp
    · intro j hj
      rw [List.getElem?_set]
      split
      · rename_i e'; subst e'
        simp [hl, show i < 12 by omega, num8, show i < 8 by omega]
      · exact h1 j (by omega)
  · have h4 : i = 4 := by omega
    subst h4
    refine Lp.up 8 (fun i vs w => vs = [.int .i64 i] ∧ ∃ bs : List UInt8, bs.length = 12 ∧ (∀ j, j < 4 → bs[j]? = (num8 e)[j]?) ∧ (∀ j, j < i → bs[4 + j]? = (num8 s)[j]?) ∧ Sat B w (bk b1 t_arr12_uint8 (bcells bs) :: bk b0 t_arr12_uint8 (bcells (List.replicate 12 0)) :: F)) ⟨rfl, bs, hl, h1, by simp, h2⟩ fun I' nx' cs' => ?_
    intro n1 l1 w4 hI'
    obtain ⟨i, hi, rfl, hv, bs, hl, h1, h3, h2⟩ := cs' _ _ _ hI'
    obtain rfl : n1 = (i : Int) := by simpa using hv
    refine Br.lt (fun hlt => ?_) (fun hge => ?_)
    · have hlt : i < 8 := by omega
      rw [w64 (x := 8 * (i : Int)) (by omega) (by omega), w64 (x := 4 + (i : Int)) (by omega) (by omega), show min (8 * (i : Int)).toNat 64 = 8 * i by omega, wrap_u8, u64_fdiv _ _ hlt, show (4 : Int) + i = ((4 + i : Nat) : Int) by omega]
      refine ⟨by simp only [Nn]; omega, hst (by omega) hl h2 fun w' h => nx' i _ _ _ hlt rfl ⟨?_, bs.set (4 + i) _, by simp [hl], ?_, ?_, h⟩⟩
      · rw [w64 (by omega) (by omega)]; simp
      · intro j hj
        rw [List.getElem?_set, if_neg (by omega)]
        exact h1 j hj
      · intro j hj
        rw [List.getElem?_set]
        split
        · rename_i e'
          have : i = j := by omega
          subst this
          simp [hl, show 4 + i < 12 by omega, num8, hlt]
        · exact h3 j (by omega)
    · have h8 : i = 8 := by omega
      subst h8
      have eb : bs = nonceB e s := by
        apply List.ext_getElem?
        intro j
        unfold nonceB
        by_cases hj : j < 4
        · rw [h1 j hj, List.getElem?_append_left (by simp [num8_length]; omega), List.getElem?_take, if_pos hj]
        · rw [List.getElem?_append_right (by simp [num8_length]; omega)]
          have hl4 : ((num8 e).take 4).length = 4 := by simp [num8_length]
          rw [hl4]
          by_cases hj2 : j < 12
          · have := h3 (j - 4) (by omega)
            rw [show 4 + (j - 4) = j by omega] at this
            exact this
          · rw [List.getElem?_eq_none (by omega), List.getElem?_eq_none (by rw [num8_length]; omega)]
      subst eb
      refine ⟨_, ldA (n := 12) wd_arr12 h2.bk (by rw [bcells_length, nonceB_length]; omega), ?_⟩
      have e1 : ((bcells (nonceB e s)).drop 0).take 12 = bcells (nonceB e s) := by rw [List.drop_zero, List.take_of_length_le (by rw [bcells_length, nonceB_length]; omega)]
      rw [e1]
      refine Sat.stA (n := 12) (h2.pull 1) wd_arr12 (by rw [bcells_length, nonceB_length]) (ones_bcells _) (by simp [bcells]) fun w' h => ⟨_, ldA (n := 12) wd_arr12 h.bk (by simp [bcells_length, nonceB_length]), ?_⟩
      have e2 : ((List.take 0 (bcells (List.replicate 12 0)) ++ bcells (nonceB e s) ++ List.drop (0 + 12) (bcells (List.replicate 12 0))).drop 0).take 12 = bcells (nonceB e s) := by
        simp only [List.take_zero, List.nil_append, List.drop_zero]
        exact List.take_left' (by rw [bcells_length, nonceB_length])
      rw [e2]
      exact hk _ h.tail.tail

end Go.Dv

/-! the vault: may, Key, Hash -/
set_option maxRecDepth 20000
namespace Go.Dv
open Go Go.Sh Go.Sl

variable {B : Bs} {w : World} {F : List HP} {K : Value → World → Prop}

structure Vt where
  master : List UInt8
  limit : Int
  used : List (List UInt8 × List UInt8)
  clash : Int

def usedKV (l : List (List UInt8 × List UInt8)) : List (Value × Value) := l.map fun p => (arr p.1, .string (str p.2))
def vcells (wb : Nat) (V : Vt) (r : Nat) : List Value := .iface t_p_ideal_World (.pointer (at0 wb)) :: (bcells V.master ++ [.int .i64 V.limit, .map (some r), .int .i64 V.clash])

/-- A vault's pieces. -/
def vlt (b wb : Nat) (V : Vt) : HP := box fun (r : Nat) => [bk b t_vault_Vault (vcells wb V r), mp P t_vault_place r (usedKV V.used), so (V.master.length = 32 ∧ ∀ p ∈ V.used, p.1.length = 44)]

theorem vc_len {wb r : Nat} {V : Vt} (h : V.master.length = 32) : (vcells wb V r).length = 36 := by simp [vcells, bcells_length, h]
theorem vc_33 {wb r : Nat} {V : Vt} (h : V.master.length = 32) : (vcells wb V r)[33]? = some (.int .i64 V.limit) := by
  simp only [vcells, List.getElem?_cons_succ]
  rw [List.getElem?_append_right (by rw [bcells_length, h]; omega), bcells_length, h]; rfl
theorem vc_34 {wb r : Nat} {V : Vt} (h : V.master.length = 32) : (vcells wb V r)[34]? = some (.map (some r)) := by
  simp only [vcells, List.getElem?_cons_succ]
  rw [List.getElem?_append_right (by rw [bcells_length, h]; omega), bcells_length, h]; rfl
theorem vc_35 {wb r : Nat} {V : Vt} (h : V.master.length = 32) : (vcells wb V r)[35]? = some (.int .i64 V.clash) := by
  simp only [vcells, List.getElem?_cons_succ]
  rw [List.getElem?_append_right (by rw [bcells_length, h]; omega), bcells_length, h]; rfl
theorem vc_set {wb r : Nat} {V : Vt} {c : Int} (h : V.master.length = 32) : (vcells wb V r).set 35 (.int .i64 c) = vcells wb { V with clash := c } r := by
  simp only [vcells, List.set_cons_succ]
  rw [List.set_append_right _ _ (by rw [bcells_length, h]; omega), bcells_length, h]; rfl
theorem vc_master {wb r : Nat} {V : Vt} (h : V.master.length = 32) : ((vcells wb V r).drop 1).take 32 = bcells V.master := by
  simp only [vcells, List.drop_succ_cons, List.drop_zero]
  exact List.take_left' (by rw [bcells_length, h])

theorem Sat.vOpen {b wb : Nat} {V : Vt} (h : Sat B w (vlt b wb V :: F)) : ∃ r, Sat B w (bk b t_vault_Vault (vcells wb V r) :: mp P t_vault_place r (usedKV V.used) :: F) ∧ V.master.length = 32 ∧ ∀ p ∈ V.used, p.1.length = 44 := by
  obtain ⟨r, h⟩ := h.opened
  obtain ⟨h1, h⟩ := (h.pull 2).fact
  exact ⟨r, h, h1⟩
theorem Sat.vShut {b wb r : Nat} {V : Vt} (h : Sat B w (bk b t_vault_Vault (vcells wb V r) :: mp P t_vault_place r (usedKV V.used) :: F)) (h1 : V.master.length = 32) (h2 : ∀ p ∈ V.used, p.1.length = 44) : Sat B w (vlt b wb V :: F) :=
  Sat.shut (f := fun (r : Nat) => [bk b t_vault_Vault (vcells wb V r), mp P t_vault_place r (usedKV V.used), so (V.master.length = 32 ∧ ∀ p ∈ V.used, p.1.length = 44)]) r ((((Sat.known (φ := V.master.length = 32 ∧ ∀ p ∈ V.used, p.1.length = 44) ⟨h1, h2⟩ h).pull 2).pull 2))

theorem Limit_ok {b wb : Nat} {V : Vt} (h : Sat B w (vlt b wb V :: F)) (hk : K (.int .i64 V.limit) w) : Cs P f_vault_Vault_Limit #[.pointer (at0 b)] w K := by
  obtain ⟨r, h, hm, _⟩ := Sat.vOpen h
  refine ok_vault_Vault_Limit _ ?_
  unfold vc_vault_Vault_Limit
  exact Br.f (NN.some ⟨_, ld1 sc_int h.bk (vc_33 hm), hk⟩)

/-- Why a nonce can't be. -/
def Vt.may (V : Vt) (e s : Int) : Int := if e < 0 ∨ s < 0 then 1 else if 4294967296 ≤ e ∨ V.limit ≤ s then 10 else 0

theorem may_ok {b wb : Nat} {V : Vt} {e s : Int} (h : Sat B w (vlt b wb V :: F)) (hk : K (.int .i64 (V.may e s)) w) : Cs P f_vault_Vault_may #[.pointer (at0 b), .int .i64 e, .int .i64 s] w K := by
  obtain ⟨r, h, hm, _⟩ := Sat.vOpen h
  refine ok_vault_Vault_may _ _ _ ?_
  unfold vc_vault_Vault_may
  have s1 : (e < 0 ∨ s < 0) → K (.int .i64 1) w := fun h => by simpa [Vt.may, h] using hk
  have s2 : ¬ (e < 0 ∨ s < 0) → Jn (fun K2 ↦ Br (geI e 4294967296) (K2 [.bool true] w) (NN (at0 b) fun a0 ↦ LdI .i64 P t_int (Addr.add a0 33) w fun n0 ↦ K2 [.bool (geI s n0)] w)) fun K3 ↦
              ∀ (b1 : Bool) (w1 : World), K3 [.bool b1] w1 → Br b1 (K (.int .i64 10) w1) (K (.int .i64 0) w1) := by
    intro hn
    refine Jn.dupB (Br.ge (fun h1 => ⟨_, rfl, Br.t (by simpa [Vt.may, hn, h1] using hk)⟩) fun h1 => NN.some ⟨_, ld1 sc_int h.bk (vc_33 hm), _, rfl, Br.ge (fun h2 => ?_) fun h2 => ?_⟩)
    · simpa [Vt.may, hn, h2] using hk
    · have : ¬ (4294967296 ≤ e ∨ V.limit ≤ s) := by omega
      simpa [Vt.may, hn, this] using hk
  refine Br.f (Jn.dupB (Br.lt (fun h1 => ⟨_, rfl, Br.t (s1 (.inl h1))⟩) fun h1 => ⟨_, rfl, Br.lt (fun h2 => s1 (.inr h2)) fun h2 => s2 (by omega)⟩))

/-- What a key is made of. -/
def keyText (p : List UInt8) (ns : List Int) : List UInt8 := txt p ++ ns.flatMap num8

theorem keyText_length (p : List UInt8) (ns : List Int) : (keyText p ns).length = p.length + 3 + 8 * ns.length := by
  rw [keyText, List.length_append, txt_length, nums_length]

theorem VKey_ok {b wb m mc : Nat} {V : Vt} {I : Id} {p : List UInt8} {q : Option Addr} {ns : List Int} (h : Sat B w (vlt b wb V :: idl wb I :: F)) (hp : p.length ≤ 1000) (hr : Rd B q (icells ns)) (hm : m = ns.length) (hn : ns.length ≤ 1000)
    (hI : I.made.length < 1152921504606846976)
    (hk : ∀ w', Sat B w' (vlt b wb V :: idl wb (I.derive V.master (keyText p ns)) :: F) → K (arr (I.key V.master (keyText p ns))) w') :
    Cs P f_vault_Vault_Key #[.pointer (at0 b), .string (str p), .slice q m mc] w K := by
  subst hm
  refine ok_vault_Vault_Key _ _ _ _ _ ?_
  unfold vc_vault_Vault_Key
  refine h.var zr_Key fun b0 w' h => Br.f ?_
  refine ⟨_, _, bld_run pt_Writer fill_nil, ?_⟩
  refine h.new fun bw w' h => ?_
  have h := newWriter h
  refine h.build1 el_strings rfl fun p1 w' h => ?_
  obtain ⟨B1, hle1, h, hr1, _⟩ := h.fix
  refine Text_ok (ts := [p]) (N := 0) h hr1 rfl (by simp; omega) (by simp) (by simp) fun w' h => ⟨rfl, ?_⟩
  have h := h.thaw hle1
  refine Num_ok (ns := ns) h hr rfl (by simp [txt_length]; omega) fun w' h => ⟨rfl, fun w'' ha => ?_⟩
  have ekt : ([] ++ [p].flatMap txt ++ ns.flatMap num8) = keyText p ns := by simp [keyText]
  rw [ekt] at h
  have h := h.alk ha
  obtain ⟨r, h, hmas, hus⟩ := Sat.vOpen (h.pull 2)
  obtain ⟨B2, hle2, h, hz, back⟩ := h.lendBk
  have hb0 : ∀ {w' F'}, Sat B2 w' F' → (loadVar t_vault_backend (Addr.add ⟨b, 0, none⟩ 0)).run P w' = .ok (.iface t_p_ideal_World (.pointer (at0 wb))) w' := fun h => ld1 sc_backend (h.z hz) rfl
  refine NN.some ⟨_, _, hb0 h, NN.some ⟨_, _, _, arr_all un_Key sz_u8 (by omega), ?_⟩⟩
  refine Bytes_ok (h.pull 1) (by rw [keyText_length]; omega) fun p2 c2 w' h => ⟨_, _, _, rfl, ⟨arr_all un_Key sz_u8 (by omega), hb0 h, trivial⟩, ?_⟩
  obtain ⟨B3, hle3, h, hr3, _, back3⟩ := h.lend
  refine h.build1 el_pieces rfl fun p4 w' h => ?_
  obtain ⟨B4, hle4, h, hr4, _⟩ := h.fix
  refine ⟨⟨arr_all un_Key sz_u8 (by omega), hb0 (Sat.thaw hle3 (Sat.thaw hle4 h)), trivial⟩, _, _, cm_Derive _ _ _ _, ?_⟩
  have hmr : Rd B2 (some ⟨b, 1, none⟩) (bcells V.master) := Rd.ofBlock hz (by rw [bcells_length, hmas]; exact vc_master hmas) (by rw [bcells_length, hmas, vc_len hmas]; omega)
  refine IDerive_ok (ps := [keyText p ns]) (h.pull 3) ((hmr.mono hle3).mono hle4) hmas.symm (Rds.one hr4 (SlOf.mk (hr3.mono hle4) rfl)) rfl (by simp) (by simp only [List.flatten_cons, List.flatten_nil, List.length_append, List.length_nil, keyText_length]; omega) hI fun w' h => ⟨_, rfl, ⟨hb0 (Sat.thaw hle3 (Sat.thaw hle4 h)), trivial⟩, ?_⟩
  simp only [List.flatten_cons, List.flatten_nil, List.append_nil] at h ⊢
  have hl : (bcells (I.key V.master (keyText p ns))).length = 32 := by rw [bcells_length, Id.key, thg_length (by omega)]
  refine Sat.stA (n := 32) (h.pull 3) wd_Key hl (ones_bcells _) (by simp [bcells]) fun w' h => ⟨_, ldA (n := 32) wd_Key h.bk (by simp only [List.length_append, hl]; omega), ?_⟩
  have e : ((List.take 0 (bcells (List.replicate 32 0)) ++ bcells (I.key V.master (keyText p ns)) ++ List.drop (0 + 32) (bcells (List.replicate 32 0))).drop 0).take 32 = bcells (I.key V.master (keyText p ns)) := by
    simp only [List.take_zero, List.nil_append, List.drop_zero]
    exact List.take_left' hl
  rw [e]
  refine hk _ (Sat.vShut (r := r) ?_ hmas hus)
  exact ((back _ _ (Sat.thaw hle3 (Sat.thaw hle4 ((h.tail.pull 1).tail)))).pull 2).pull 1

end Go.Dv

/-! the vault: Hash, Seal -/
set_option maxRecDepth 20000
namespace Go.Dv
open Go Go.Sh Go.Sl

variable {B : Bs} {w : World} {F : List HP} {K : Value → World → Prop}

theorem VHash_ok {b wb m mc : Nat} {V : Vt} {I : Id} {q : Option Addr} {vs : List Value} {ps : List (List UInt8)} (h : Sat B w (vlt b wb V :: idl wb I :: F)) (hr : Rds B q vs ps) (hm : m = ps.length) (hm2 : ps.length < 1000000) (hb : ps.flatten.length ≤ 1099511627776)
    (hI : I.made.length < 1152921504606846976)
    (hk : ∀ w', Sat B w' (vlt b wb V :: idl wb (I.hash ps.flatten) :: F) → K (arr (I.dig ps.flatten)) w') :
    Cs P f_vault_Vault_Hash #[.pointer (at0 b), .slice q m mc] w K := by
  refine ok_vault_Vault_Hash _ _ _ _ ?_
  unfold vc_vault_Vault_Hash
  refine h.var zr_arr32 fun b0 w' h => Br.f ?_
  obtain ⟨r, h, hmas, hus⟩ := Sat.vOpen (h.pull 1)
  refine NN.some ⟨_, _, ld1 sc_backend h.bk rfl, _, _, cm_Hash _ _ _, ?_⟩
  refine IHash_ok (h.pull 3) hr hm hm2 hb hI fun w' h => ⟨_, rfl, ?_⟩
  have hl : (bcells (I.dig ps.flatten)).length = 32 := by rw [bcells_length, Id.dig, thg_length (by omega)]
  refine Sat.stA (n := 32) (h.pull 3) wd_arr32 hl (ones_bcells _) (by simp [bcells]) fun w' h => ⟨_, ldA (n := 32) wd_arr32 h.bk (by simp only [List.length_append, hl]; omega), ?_⟩
  have e : ((List.take 0 (bcells (List.replicate 32 0)) ++ bcells (I.dig ps.flatten) ++ List.drop (0 + 32) (bcells (List.replicate 32 0))).drop 0).take 32 = bcells (I.dig ps.flatten) := by
    simp only [List.take_zero, List.nil_append, List.drop_zero]
    exact List.take_left' hl
  rw [e]
  exact hk _ (Sat.vShut (r := r) ((h.tail.pull 2).pull 2) hmas hus)

theorem pt_place : parts P t_vault_place = some ([(0, 32), (32, 12)], bcells (List.replicate 44 0)) := by kernel_rfl

theorem b_place {k n : List UInt8} (hk : k.length = 32) (hn : n.length = 12) : (Instr.build t_vault_place #[(0, arr k), (1, arr n)]).run P w = .ok (arr (k ++ n)) w := by
  refine bld_run pt_place ?_
  have h1 : (bcells k).length = 32 := by rw [bcells_length, hk]
  have h2 : (bcells n).length = 12 := by rw [bcells_length, hn]
  rw [fill_step (L := bcells k) rfl rfl h1 (by rw [bcells_length]; simp), fill_step (L := bcells n) rfl rfl h2 (by simp [bcells_length, hk]), fill_nil]
  congr 2
  rw [bcells_append]
  apply List.ext_getElem?
  intro i
  have hd : (bcells (List.replicate 44 0)).length = 44 := by rw [bcells_length]; simp
  simp only [List.take_zero, List.nil_append, Nat.zero_add]
  rw [List.take_left' h1, List.drop_eq_nil_iff.2 (by simp only [List.length_append, List.length_drop, h1, hd]; omega), List.append_nil]

theorem eqS_str (a b : List UInt8) : eqS (str a) (str b) = decide (a = b) := by
  simp [eqS, ByteArray.toList_eq, str]
  by_cases h : a = b <;> simp [h]

/-- A nonce is used. -/
def Vt.meets (V : Vt) (k t : List UInt8) : Bool := V.used.any fun p => decide (p.1 = k) && !decide (p.2 = t)
theorem Vt.meets_iff (V : Vt) (k t : List UInt8) : V.meets k t = true ↔ ∃ o, (k, o) ∈ V.used ∧ o ≠ t := by
  simp only [Vt.meets, List.any_eq_true, Bool.and_eq_true, decide_eq_true_eq, Bool.not_eq_true', decide_eq_false_iff_not]
  constructor
  · rintro ⟨⟨a, o⟩, h1, h2, h3⟩
    exact ⟨o, by simp only at h2; rw [← h2]; exact h1, h3⟩
  · rintro ⟨o, h1, h2⟩
    exact ⟨_, h1, rfl, h2⟩
def Vt.use (V : Vt) (k t : List UInt8) : Vt := { V with used := setT k t V.used, clash := if V.meets k t then IntKind.i64.wrap (V.clash + 1) else V.clash }

theorem arr_inj {a b : List UInt8} (h : arr a = arr b) : a = b := by
  simp only [arr, Value.agg.injEq] at h
  exact bcells_inj (by simpa using congrArg Array.toList h)

theorem usedKV_set (l : List (List UInt8 × List UInt8)) (j : Nat) (a t : List UInt8) : (usedKV l).set j (arr a, .string (str t)) = usedKV (l.set j (a, t)) := by simp [usedKV, List.map_set]

theorem mem_usedKV {l : List (List UInt8 × List UInt8)} {a : List UInt8} {v : Value} (h : (arr a, v) ∈ usedKV l) : ∃ t, (a, t) ∈ l ∧ v = .string (str t) := by
  simp only [usedKV, List.mem_map] at h
  obtain ⟨⟨x, t⟩, h1, h2⟩ := h
  simp only [Prod.mk.injEq] at h2
  obtain ⟨h3, rfl⟩ := h2
  have := arr_inj h3
  subst this
  exact ⟨t, h1, rfl⟩

theorem used_nodup {r : Nat} {l : List (List UInt8 × List UInt8)} (h : Sat B w (mp P t_vault_place r (usedKV l) :: F)) : (l.map (·.1)).Nodup := by
  obtain ⟨_, _, _, _, _, h2⟩ := h.mpOpen
  have : (usedKV l).map (·.1) = (l.map (·.1)).map arr := by simp [usedKV]
  rw [this] at h2
  exact nodup_of_map _ h2

theorem uniq {l : List (List UInt8 × List UInt8)} (hn : (l.map (·.1)).Nodup) {k a b : List UInt8} (h1 : (k, a) ∈ l) (h2 : (k, b) ∈ l) : a = b := by
  induction l with
  | nil => cases h1
  | cons p l ih =>
    rw [List.map_cons, List.nodup_cons] at hn
    rcases List.mem_cons.1 h1 with e1 | h1
    · rcases List.mem_cons.1 h2 with e2 | h2
      · rw [← e1] at e2; cases e2; rfl
      · exact absurd (show p.1 ∈ l.map (·.1) from List.mem_map.2 ⟨(k, b), h2, by rw [← e1]⟩) hn.1
    · rcases List.mem_cons.1 h2 with e2 | h2
      · exact absurd (show p.1 ∈ l.map (·.1) from List.mem_map.2 ⟨(k, a), h1, by rw [← e2]⟩) hn.1
      · exact ih hn.2 h1 h2

theorem VSeal_ok {b wb m mc tl tc : Nat} {V : Vt} {I : Id} {tp q : Option Addr} {e s : Int} {key t : List UInt8} {vs : List Value} {ps : List (List UInt8)} (h : Sat B w (vlt b wb V :: idl wb I :: F)) (hkey : key.length = 32) (htr : Rd B tp (bcells t)) (htl : tl = t.length)
    (hr : Rds B q vs ps) (hm : m = ps.length) (hm2 : ps.length < 1000000) (htb : t.length ≤ 1048576) (hb : ps.flatten.length ≤ 1048576)
    (hI : I.made.length < 1152921504606846976)
    (hk1 : V.may e s = 0 → ∀ p w', Sat B w' (buf t_uint8 1 p (t.length + 16) (t.length + 16) (bcells (I.sealed key (nonceB e s) ps.flatten t)) :: vlt b wb (V.use (key ++ nonceB e s) t) :: idl wb (I.sealT key (nonceB e s) ps.flatten t) :: F) → K (.tuple #[.slice p (t.length + 16) (t.length + 16), .int .i64 0]) w')
    (hk2 : V.may e s ≠ 0 → ∀ w', Sat B w' (vlt b wb V :: idl wb I :: F) → K (.tuple #[.slice none 0 0, .int .i64 (V.may e s)]) w') :
    Cs P f_vault_Vault_Seal #[.pointer (at0 b), arr key, .int .i64 e, .int .i64 s, .slice tp tl tc, .slice q m mc] w K := by
  subst htl
  refine ok_vault_Vault_Seal _ _ _ _ _ _ _ _ _ _ ?_
  unfold vc_vault_Vault_Seal
  refine h.new fun ba w' h => ?_
  refine may_ok (h.pull 1) ⟨_, rfl, Br.ne (fun hne => hk2 hne _ h.tail) fun hmay => ?_⟩
  refine nonce_ok h fun w' h => ⟨_, rfl, ?_⟩
  refine h.var zr_arr12 fun bn w' h => ?_
  have hnl : (bcells (nonceB e s)).length = 12 := by rw [bcells_length, nonceB_length]
  refine Sat.stA (n := 12) h wd_arr12 hnl (ones_bcells _) (by simp [bcells]) fun w' h => ?_
  have e12 : List.take 0 (bcells (List.replicate 12 0)) ++ bcells (nonceB e s) ++ List.drop (0 + 12) (bcells (List.replicate 12 0)) = bcells (nonceB e s) := by
    rw [List.drop_eq_nil_iff.2 (by simp [bcells_length])]; simp
  rw [e12] at h
  have ecells : (arr key).cells.toList = bcells key := rfl
  rw [ecells] at h
  intro w1 ha
  have h := h.alk ha
  have hf1 := Sat.freeze h
  obtain ⟨B1, hB1⟩ : ∃ B1, B1 = B.and bn (.cells (bcells (nonceB e s)).toArray t_arr12_uint8 (0, 0)) := ⟨_, rfl⟩
  rw [← hB1] at hf1
  obtain ⟨h, hle1, hzn⟩ := hf1
  have hf2 := Sat.freeze h
  obtain ⟨B2, hB2⟩ : ∃ B2, B2 = B1.and ba (.cells (bcells key).toArray t_vault_Key (0, 0)) := ⟨_, rfl⟩
  rw [← hB2] at hf2
  obtain ⟨h, hle2, hzk⟩ := hf2
  have hzn := hle2.z _ _ hzn
  have hle := hle1.trans hle2
  have hkl : (bcells key).length = 32 := by rw [bcells_length, hkey]
  have rk : Rd B2 (at0 ba) (bcells key) := Rd.ofBlock hzk (by rw [List.drop_zero, List.take_length]) (by omega)
  have rn : Rd B2 (at0 bn) (bcells (nonceB e s)) := Rd.ofBlock hzn (by rw [List.drop_zero, List.take_length]) (by omega)
  obtain ⟨r, h, hmas, hus⟩ := Sat.vOpen h
  refine NN.some ⟨_, _, ld1 sc_backend h.bk rfl, _, _, _, arr_all un_Key sz_u8 (by omega), _, _, _, arr_all un_arr12 sz_u8 (by omega), _, _, cm_Seal _ _ _ _ _ _, ?_⟩
  refine ISeal_ok (h.pull 2) rk hkey.symm rn (nonceB_length e s).symm (htr.mono hle) rfl (hr.mono hle) hm hm2 (by omega) (by rw [nonceB_length]; omega) htb hb hI fun p w' h => ⟨_, _, _, _, rfl, ?_⟩
  refine ⟨⟨ld1 sc_backend (h.pull 2).bk rfl, trivial⟩, Br.f ?_⟩
  refine ⟨_, _, Rd.strRun h (htr.mono hle) rfl un_bytes un_u8 un_string, ?_⟩
  intro w2 ha2
  have h := h.alk ha2
  have lk : ∀ {w' F'}, Sat B2 w' F' → (loadVar t_vault_Key ⟨ba, 0, none⟩).run P w' = .ok (arr key) w' := fun h => by
    have := ldA (P := P) (n := 32) (off := 0) wd_Key (h.z hzk) (by omega)
    rw [List.drop_zero, List.take_of_length_le (by omega)] at this
    exact this
  have ln : ∀ {w' F'}, Sat B2 w' F' → (loadVar t_arr12_uint8 ⟨bn, 0, none⟩).run P w' = .ok (arr (nonceB e s)) w' := fun h => by
    have := ldA (P := P) (n := 12) (off := 0) wd_arr12 (h.z hzn) (by omega)
    rw [List.drop_zero, List.take_of_length_le (by omega)] at this
    exact this
  refine NN.some ⟨_, ld1 sc_mapPlace (h.pull 2).bk (vc_34 hmas), _, lk h, _, ln h, _, b_place hkey (nonceB_length e s), ?_⟩
  obtain ⟨kl, hkl'⟩ := key_place (k := key) (n := nonceB e s) hkey (nonceB_length e s)
  have hund := used_nodup (h.pull 3)
  -- behind the clash
  have rest : ∀ (w' : World) (c : Int), c = (V.use (key ++ nonceB e s) t).clash → Sat B2 w' (bk b t_vault_Vault (vcells wb { V with clash := c } r) :: mp P t_vault_place r (usedKV V.used) :: buf t_uint8 1 p (t.length + 16) (t.length + 16) (bcells (I.sealed key (nonceB e s) ps.flatten t)) :: idl wb (I.sealT key (nonceB e s) ps.flatten t) :: F) →
      Dr w' fun w12 ↦ NN (at0 b) fun a6 ↦ LdM P t_map_vault_place_string (Addr.add a6 34) w12 fun p4 ↦ LdV P t_vault_Key ⟨ba, 0, none⟩ w12 fun v8 ↦ LdV P t_arr12_uint8 ⟨bn, 0, none⟩ w12 fun v9 ↦
        RdV P (Instr.build t_vault_place #[(0, v8), (1, v9)]) w12 fun v10 ↦ DoU P (Instr.mapUpdate t_map_vault_place_string (.map p4) v10 (.string (str t))) w12 fun w13 ↦ K (.tuple #[.slice p (t.length + 16) (t.length + 16), .int .i64 0]) w13 := by
    intro w' c hc h w3 ha3
    have h := h.alk ha3
    refine NN.some ⟨_, ld1 sc_mapPlace h.bk (vc_34 (V := { V with clash := c }) hmas), _, lk h, _, ln h, _, b_place hkey (nonceB_length e s), ?_⟩
    have fin : ∀ w', Sat B2 w' (mp P t_vault_place r (usedKV (setT (key ++ nonceB e s) t V.used)) :: bk b t_vault_Vault (vcells wb { V with clash := c } r) :: buf t_uint8 1 p (t.length + 16) (t.length + 16) (bcells (I.sealed key (nonceB e s) ps.flatten t)) :: idl wb (I.sealT key (nonceB e s) ps.flatten t) :: F) → K (.tuple #[.slice p (t.length + 16) (t.length + 16), .int .i64 0]) w' := by
      intro w' h
      refine hk1 hmay _ _ ?_
      have h := h.thaw hle
      have hu : V.use (key ++ nonceB e s) t = { V with used := setT (key ++ nonceB e s) t V.used, clash := c } := by rw [hc]; rfl
      have h2 : Sat B w' (vlt b wb { V with used := setT (key ++ nonceB e s) t V.used, clash := c } :: buf t_uint8 1 p (t.length + 16) (t.length + 16) (bcells (I.sealed key (nonceB e s) ps.flatten t)) :: idl wb (I.sealT key (nonceB e s) ps.flatten t) :: F) :=
        Sat.vShut (r := r) (h.pull 1) hmas (fun x hx => by
          rcases mem_setT_of hx with rfl | ⟨hx, _⟩
          · simp [hkey, nonceB_length]
          · exact hus x hx)
      rw [hu]
      exact h2.pull 1
    refine (h.pull 1).mapUpdate kl_place un_mapPlace hkl' (fun hno w' h => fin _ ?_) fun j o hj w' h => fin _ ?_
    · rw [setT_absent]
      · simpa [usedKV] using h
      · intro x hx e'
        refine hno (arr x.1, .string (str x.2)) ?_ (by rw [e'])
        exact List.mem_map.2 ⟨x, hx, rfl⟩
    · have hj' : ∃ o', V.used[j]? = some (key ++ nonceB e s, o') := by
        simp only [usedKV, List.getElem?_map, Option.map_eq_some_iff] at hj
        obtain ⟨⟨x, y⟩, h1, h2⟩ := hj
        simp only [Prod.mk.injEq] at h2
        rw [arr_inj h2.1] at h1
        exact ⟨y, h1⟩
      obtain ⟨o', hj'⟩ := hj'
      rw [setT_present hund hj', ← usedKV_set]
      exact h
  have bump : ∀ (c : Bool), (c = true ↔ ∃ o, (key ++ nonceB e s, o) ∈ V.used ∧ o ≠ t) → Jn
                                                                      (fun K2 ↦
                                                                        Br c (NN (at0 b) fun a4 ↦ LdI .i64 P t_int (Addr.add a4 35) w2 fun n2 ↦ NN (at0 b) fun a5 ↦ DoU P (storeVar t_int (Addr.add a5 35) (.int .i64 (IntKind.i64.wrap (n2 + 1)))) w2 fun w10 ↦ K2 [] w10)
                                                                          (K2 [] w2))
                                                                      fun K3 ↦
                                                                      ∀ (w11 : World),
                                                                        K3 [] w11 →
                                                                          Dr w11 fun w12 ↦
                                                                            NN (at0 b) fun a6 ↦
                                                                              LdM P t_map_vault_place_string (Addr.add a6 34) w12 fun p4 ↦
                                                                                LdV P t_vault_Key ⟨ba, 0, none⟩ w12 fun v8 ↦
                                                                                  LdV P t_arr12_uint8 ⟨bn, 0, none⟩ w12 fun v9 ↦
                                                                                    RdV P (Instr.build t_vault_place #[(0, v8), (1, v9)]) w12 fun v10 ↦ DoU P (Instr.mapUpdate t_map_vault_place_string (.map p4) v10 (.string (str t))) w12 fun w13 ↦ K (.tuple #[.slice p (t.length + 16) (t.length + 16), .int .i64 0]) w13 := by
    intro c hc
    have h := (h.pull 3).pull 3
    refine Jn.dup (Br.bool (fun ht => ?_) fun hf => ⟨rfl, rest _ V.clash ?_ h⟩)
    · refine NN.some ⟨_, ld1 sc_int h.bk (vc_35 hmas), NN.some ?_⟩
      refine Sat.st1 h sc_int rfl (by rw [vc_len hmas]; show 0 + 35 < 36; omega) fun w' h => ⟨rfl, rest _ (IntKind.i64.wrap (V.clash + 1)) ?_ ?_⟩
      · simp only [Vt.use]; rw [if_pos ((V.meets_iff _ _).2 (hc.1 ht))]
      · rw [vc_set hmas] at h; exact h
    · simp only [Vt.use]; rw [if_neg (fun hx => by rw [hc.2 ((V.meets_iff _ _).1 hx)] at hf; cases hf)]
  rcases (h.pull 3).lookup kl_place un_mapPlace (zv_string _) hkl' with ⟨hno, hrun⟩ | ⟨v, hv, hrun⟩
  · refine ⟨_, _, hrun, Jn.dupB (Br.f ⟨_, rfl, bump _ ⟨fun h => absurd h (by simp), fun ⟨o, ho, _⟩ => absurd rfl (hno (arr (key ++ nonceB e s), .string (str o)) (List.mem_map.2 ⟨_, ho, rfl⟩))⟩⟩)⟩
  · obtain ⟨o, ho, rfl⟩ := mem_usedKV hv
    refine ⟨_, _, hrun, Jn.dupB (Br.t ⟨_, rfl, bump _ ?_⟩)⟩
    rw [eqS_str]
    constructor
    · intro hx
      exact ⟨o, ho, by simpa using hx⟩
    · rintro ⟨o', ho', hne⟩
      have := uniq hund ho ho'
      subst this
      simpa using hne

end Go.Dv

/-! the vault: Open, Clashes, Ideal; ideal.New -/
set_option maxRecDepth 20000
namespace Go.Dv
open Go Go.Sh Go.Sl

variable {B : Bs} {w : World} {F : List HP} {K : Value → World → Prop}

theorem VOpen_ok {b wb m mc tl tc : Nat} {V : Vt} {I : Id} {tp q : Option Addr} {e s : Int} {key t : List UInt8} {vs : List Value} {ps : List (List UInt8)} (h : Sat B w (vlt b wb V :: idl wb I :: F)) (hkey : key.length = 32) (htr : Rd B tp (bcells t)) (htl : tl = t.length)
    (hr : Rds B q vs ps) (hm : m = ps.length) (hm2 : ps.length < 1000000) (htb : t.length ≤ 1048592) (hb : ps.flatten.length ≤ 1048576)
    (hk1 : V.may e s = 0 → ∀ x, (nm 83 [key, nonceB e s, ps.flatten, t], x) ∈ I.texts → ∀ B' p c w', B.le B' → Sat B' w' (vlt b wb V :: idl wb I :: F) → Rd B' p (bcells x) → K (.tuple #[.slice p x.length c, .int .i64 0]) w')
    (hk2 : V.may e s = 0 → (∀ x, (nm 83 [key, nonceB e s, ps.flatten, t], x) ∉ I.texts) → ∀ w', Sat B w' (vlt b wb V :: idl wb I :: F) → K (.tuple #[.slice none 0 0, .int .i64 9]) w')
    (hk3 : V.may e s ≠ 0 → ∀ w', Sat B w' (vlt b wb V :: idl wb I :: F) → K (.tuple #[.slice none 0 0, .int .i64 (V.may e s)]) w') :
    Cs P f_vault_Vault_Open #[.pointer (at0 b), arr key, .int .i64 e, .int .i64 s, .slice tp tl tc, .slice q m mc] w K := by
  subst htl
  refine ok_vault_Vault_Open _ _ _ _ _ _ _ _ _ _ ?_
  unfold vc_vault_Vault_Open
  refine h.new fun ba w' h => ?_
  refine may_ok (h.pull 1) ⟨_, rfl, Br.ne (fun hne => hk3 hne _ h.tail) fun hmay => ?_⟩
  refine nonce_ok h fun w' h => ⟨_, rfl, ?_⟩
  refine h.var zr_arr12 fun bn w' h => ?_
  have hnl : (bcells (nonceB e s)).length = 12 := by rw [bcells_length, nonceB_length]
  refine Sat.stA (n := 12) h wd_arr12 hnl (ones_bcells _) (by simp [bcells]) fun w' h => ?_
  have e12 : List.take 0 (bcells (List.replicate 12 0)) ++ bcells (nonceB e s) ++ List.drop (0 + 12) (bcells (List.replicate 12 0)) = bcells (nonceB e s) := by
    rw [List.drop_eq_nil_iff.2 (by simp [bcells_length])]; simp
  rw [e12] at h
  have ecells : (arr key).cells.toList = bcells key := rfl
  rw [ecells] at h
  intro w1 ha
  have h := h.alk ha
  have hf1 := Sat.freeze h
  obtain ⟨B1, hB1⟩ : ∃ B1, B1 = B.and bn (.cells (bcells (nonceB e s)).toArray t_arr12_uint8 (0, 0)) := ⟨_, rfl⟩
  rw [← hB1] at hf1
  obtain ⟨h, hle1, hzn⟩ := hf1
  have hf2 := Sat.freeze h
  obtain ⟨B2, hB2⟩ : ∃ B2, B2 = B1.and ba (.cells (bcells key).toArray t_vault_Key (0, 0)) := ⟨_, rfl⟩
  rw [← hB2] at hf2
  obtain ⟨h, hle2, hzk⟩ := hf2
  have hzn := hle2.z _ _ hzn
  have hle := hle1.trans hle2
  have hkl : (bcells key).length = 32 := by rw [bcells_length, hkey]
  have rk : Rd B2 (at0 ba) (bcells key) := Rd.ofBlock hzk (by rw [List.drop_zero, List.take_length]) (by omega)
  have rn : Rd B2 (at0 bn) (bcells (nonceB e s)) := Rd.ofBlock hzn (by rw [List.drop_zero, List.take_length]) (by omega)
  obtain ⟨r, h, hmas, hus⟩ := Sat.vOpen h
  refine NN.some ⟨_, _, ld1 sc_backend h.bk rfl, _, _, _, arr_all un_Key sz_u8 (by omega), _, _, _, arr_all un_arr12 sz_u8 (by omega), _, _, cm_Open _ _ _ _ _ _, ?_⟩
  refine IOpen_ok (h.pull 2) rk hkey.symm rn (nonceB_length e s).symm (htr.mono hle) rfl (hr.mono hle) hm hm2 (by omega) (by rw [nonceB_length]; omega) htb hb (fun x hx B' p c w' hle' h hrx => ⟨_, _, _, _, rfl, ⟨ld1 sc_backend (h.pull 1).bk rfl, trivial⟩, Br.f ?_⟩) fun hno w' h => ⟨_, _, _, _, rfl, ⟨ld1 sc_backend (h.pull 1).bk rfl, trivial⟩, Br.t ?_⟩
  · exact hk1 hmay x hx B' p c w' (hle.trans hle') (Sat.vShut (r := r) ((h.pull 2).pull 2) hmas hus) hrx
  · exact hk2 hmay hno w' ((Sat.vShut (r := r) ((h.pull 2).pull 2) hmas hus).thaw hle)

theorem Clashes_ok {b wb : Nat} {V : Vt} (h : Sat B w (vlt b wb V :: F)) (hk : K (.int .i64 V.clash) w) : Cs P f_vault_Vault_Clashes #[.pointer (at0 b)] w K := by
  obtain ⟨r, h, hm, _⟩ := Sat.vOpen h
  refine ok_vault_Vault_Clashes _ ?_
  unfold vc_vault_Vault_Clashes
  exact Br.f (NN.some ⟨_, ld1 sc_int h.bk (vc_35 hm), hk⟩)

theorem pt_World : parts P t_ideal_World = some ([(0, 1), (1, 1)], [.map none, .map none]) := by kernel_rfl
theorem pt_Vault : parts P t_vault_Vault = some ([(0, 1), (1, 32), (33, 1), (34, 1), (35, 1)], .nilIface :: (bcells (List.replicate 32 0) ++ [.int .i64 0, .map none, .int .i64 0])) := by kernel_rfl

theorem INew_ok (h : Sat B w F) (hk : ∀ b w', Sat B w' (idl b ⟨[], []⟩ :: F) → K (.pointer (at0 b)) w') : Cs P f_ideal_New #[] w K := by
  refine ok_ideal_New ?_
  unfold vc_ideal_New
  refine h.makeMap (k := t_string) fun r1 w' h => ?_
  refine h.makeMap (k := t_string) fun r2 w' h => ?_
  refine ⟨_, _, bld_run pt_World (by rw [fill_step (L := [.map (some r1)]) rfl rfl rfl (by simp), fill_step (L := [.map (some r2)]) rfl rfl rfl (by simp), fill_nil]), ?_⟩
  refine h.new fun b w' h => hk b w' ?_
  exact Sat.shut (f := fun r : Nat × Nat => [bk b t_ideal_World [.map (some r.1), .map (some r.2)], mp P t_string r.1 (madeKV []), mp P t_string r.2 (textKV [])]) (r1, r2) ((h.pull 2).pull 1)

theorem VNew_ok {wb : Nat} {key : List UInt8} {limit : Int} (h : Sat B w F) (hkey : key.length = 32) (hk : ∀ b w', Sat B w' (vlt b wb ⟨key, mxI limit 0, [], 0⟩ :: F) → K (.pointer (at0 b)) w') :
    Cs P f_vault_Ideal #[.pointer (at0 wb), arr key, .int .i64 limit] w K := by
  refine ok_vault_Ideal _ _ _ ?_
  unfold vc_vault_Ideal
  have hkl : (bcells key).length = 32 := by rw [bcells_length, hkey]
  refine h.new fun ba w' h => ?_
  have ecells : (arr key).cells.toList = bcells key := rfl
  rw [ecells] at h
  refine ⟨_, ldA (n := 32) wd_Key h.bk (by omega), ?_⟩
  rw [List.drop_zero, List.take_of_length_le (by omega)]
  refine h.makeMap (k := t_vault_place) fun r w' h => ?_
  refine ⟨_, _, bld_run (cs := vcells wb ⟨key, mxI limit 0, [], 0⟩ r) pt_Vault ?_, ?_⟩
  · rw [fill_step (L := [.iface t_p_ideal_World (.pointer (at0 wb))]) rfl rfl rfl (by simp), fill_step (L := bcells key) rfl rfl hkl (by simp [bcells_length]), fill_step (L := [.int .i64 (mxI limit 0)]) rfl rfl rfl (by simp [bcells_length, hkey]), fill_step (L := [.map (some r)]) rfl rfl rfl (by simp [bcells_length, hkey]), fill_step (L := [.int .i64 0]) rfl rfl rfl (by simp [bcells_length, hkey]), fill_nil]
    congr 1
    have d : ∀ n, 32 ≤ n → List.drop n (bcells key) = [] := fun n hn => List.drop_eq_nil_iff.2 (by omega)
    have t : ∀ n, 32 ≤ n → List.take n (bcells key) = bcells key := fun n hn => List.take_of_length_le (by omega)
    simp [vcells, List.take_append, List.drop_append, bcells_length, hkey, d, t]
  · refine h.new fun b w' h => hk b w' ?_
    exact Sat.vShut (r := r) (V := ⟨key, mxI limit 0, [], 0⟩) ((h.pull 2).tail) hkey (by simp)

end Go.Dv
