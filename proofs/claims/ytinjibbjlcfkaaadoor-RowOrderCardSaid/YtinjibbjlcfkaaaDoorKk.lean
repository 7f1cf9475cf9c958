/- Rows' keys, and the order of rows. -/
import Derived.Test.YtinjibbjlcfkaaaDoorKe
namespace Go.Proofs.YtinjibbjlcfkaaaDoor.Kk
open Go Go.RowKit Go.Proofs.YtinjibbjlcfkaaaDoorW.PrintWords Go.Proofs.YtinjibbjlcfkaaaDoor.PD Go.Proofs.YtinjibbjlcfkaaaDoor.Rk Go.Proofs.YtinjibbjlcfkaaaDoor.Vo Go.Proofs.YtinjibbjlcfkaaaDoor.Ro Go.Proofs.YtinjibbjlcfkaaaDoor.Ko Go.Proofs.YtinjibbjlcfkaaaDoor.Ke
set_option linter.unusedVariables false
set_option linter.unusedSimpArgs false
def I64 (n : Int) : Prop := -9223372036854775808 ≤ n ∧ n ≤ 9223372036854775807
def E (l : List S35) : List UInt8 := (l.map encB).flatten
theorem E_cons (v : S35) (l : List S35) : E (v :: l) = encB v ++ E l := by simp [E]
theorem encB_ne (v : S35) : ∃ c t, encB v = c :: t := by
  unfold encB
  repeat' split
  all_goals exact ⟨_, _, rfl⟩
theorem key_less : ∀ a b : List S35, (∀ v ∈ a, RightV v ∧ I64 v.f1) → (∀ v ∈ b, RightV v ∧ I64 v.f1) → Op.bytesLess (E a) (E b) = decide (cmpL a b < 0)
  | [], [], _, _ => by simp [E, cmpL, Op.bytesLess]
  | [], w :: m, _, _ => by
    obtain ⟨c, t, e⟩ := encB_ne w
    rw [E_cons, e]
    simp [E, cmpL, Op.bytesLess]
  | v :: l, [], _, _ => by
    obtain ⟨c, t, e⟩ := encB_ne v
    rw [E_cons, e]
    simp [E, cmpL, Op.bytesLess]
  | v :: l, w :: m, ha, hb => by
    have ih := key_less l m (fun x hx => ha x (by simp [hx])) (fun x hx => hb x (by simp [hx]))
    rw [E_cons, E_cons, ord_enc (ha v (by simp)).1 (hb w (by simp)).1 (ha v (by simp)).2 (hb w (by simp)).2, ih]
    have ec : cmpL (v :: l) (w :: m) = if cmp1 v w = 0 then cmpL l m else cmp1 v w := rfl
    rw [ec]
    by_cases c : cmp1 v w = 0
    · rw [if_pos c, c]; simp
    · rw [if_neg c]; simp [c]
theorem key_eq (a b : List S35) (ha : ∀ v ∈ a, RightV v ∧ I64 v.f1) (hb : ∀ v ∈ b, RightV v ∧ I64 v.f1) : E a = E b ↔ cmpL a b = 0 := by
  have h1 := key_less a b ha hb
  have h2 := key_less b a hb ha
  have h3 := cmpL_swap a b
  constructor
  · intro e
    rw [e, bl_irr] at h1
    rw [e, bl_irr] at h2
    have g1 := of_decide_eq_false h1.symm
    have g2 := of_decide_eq_false h2.symm
    omega
  · intro e
    refine bl_eq ?_ ?_
    · rw [h1]; exact decide_eq_false (by omega)
    · rw [h2]; exact decide_eq_false (by omega)
theorem u8_mod (x : Nat) : UInt8.ofNat (x % 256) = UInt8.ofNat x := by
  apply UInt8.toNat_inj.1
  simp
theorem put_be {a : Int} (h0 : 0 ≤ a) (h1 : a ≤ 18446744073709551615) : ∃ t, num_Put.f a = some t ∧ t.data.toList = be 8 a.toNat ∧ (t.extract 4 t.size).data.toList = be 4 a.toNat := by
  obtain ⟨n, rfl⟩ := Int.eq_ofNat_of_zero_le h0
  refine ⟨_, by unfold num_Put.f; rw [if_pos h0, if_pos h1], ?_, ?_⟩
  · rw [strOfNums_data]
    simp only [put8, List.map_cons, List.map_nil, be, Int.toNat_natCast]
    refine List.cons_eq_cons.2 ⟨?_, List.cons_eq_cons.2 ⟨?_, List.cons_eq_cons.2 ⟨?_, List.cons_eq_cons.2 ⟨?_, List.cons_eq_cons.2 ⟨?_, List.cons_eq_cons.2 ⟨?_, List.cons_eq_cons.2 ⟨?_, List.cons_eq_cons.2 ⟨?_, rfl⟩⟩⟩⟩⟩⟩⟩⟩
    all_goals
      apply UInt8.toNat_inj.1
      simp only [UInt8.toNat_ofNat', Nat.reducePow]
      omega
  · have e : ((strOfNums (put8 (n : Int))).extract 4 (strOfNums (put8 (n : Int))).size).data.toList = ((put8 (n : Int)).drop 4).map fun n : Int => UInt8.ofNat n.toNat := rfl
    rw [e]
    simp only [put8, List.drop, List.map_cons, List.map_nil, be, Int.toNat_natCast]
    refine List.cons_eq_cons.2 ⟨?_, List.cons_eq_cons.2 ⟨?_, List.cons_eq_cons.2 ⟨?_, List.cons_eq_cons.2 ⟨?_, rfl⟩⟩⟩⟩
    all_goals
      apply UInt8.toNat_inj.1
      simp only [UInt8.toNat_ofNat', Nat.reducePow]
      omega
theorem turn32 {n : Int} (h : -2147483648 ≤ n ∧ n ≤ 2147483647) : IntKind.u64.wrap (Go.bits .xor .u32 (n % 4294967296) 2147483648) = n + 2147483648 := by
  rw [u32_xor _ _ (by omega) (by omega) (by omega) (by omega), show (2147483648 : Int).toNat = 2 ^ 31 from rfl]
  by_cases c : 0 ≤ n
  · rw [xor_low (by omega), IntKind.wrap_u64]; omega
  · have e : (n % 4294967296).toNat = (n + 2147483648).toNat + 2 ^ 31 := by omega
    rw [e, xor_high (by omega), IntKind.wrap_u64]; omega
theorem flip64 {n : Int} (h : I64 n) : num_Flip.f n = some (n + 9223372036854775808) := by
  obtain ⟨h1, h2⟩ := h
  unfold num_Flip.f
  rw [IntKind.wrap_u64, u64_xor _ _ (by omega) (by omega) (by omega) (by omega), show (9223372036854775808 : Int).toNat = 2 ^ 63 from rfl]
  by_cases c : 0 ≤ n
  · rw [xor_low (by omega)]; congr 1; omega
  · have e : (n % 18446744073709551616).toNat = (n + 9223372036854775808).toNat + 2 ^ 63 := by omega
    rw [e, xor_high (by omega)]; congr 1; omega
theorem repl_ev {s : ByteArray} (h : s.size ≤ 200) : ∃ t, strings_ReplaceAll.f s ⟨#[0]⟩ ⟨#[0, 255]⟩ = some t ∧ t.data.toList = esc s.toList := by
  have hc : Lib.countB s ⟨#[0]⟩ ≤ 201 := by
    have h1 := Lib.count_le s.data.toList [0]
    have h2 : s.data.toList.length = s.size := Array.length_toList
    have h3 : Lib.countB s ⟨#[0]⟩ = Lib.count s.data.toList [0] := by first | rfl | simp [Lib.countB]
    omega
  refine ⟨_, by unfold strings_ReplaceAll.f; rw [if_pos (by omega), if_pos (by decide), if_pos (by rw [show (⟨#[0, 255]⟩ : ByteArray).size = 2 from rfl]; omega)], ?_⟩
  show Lib.replaceAll s.data.toList [0] [0, 255] = _
  rw [replaceAll_one 0 [0, 255] _ (by decide), esc_repl, ByteArray.toList_eq]
theorem k10 : ((1 : Int) = 0) = False := by simp
theorem k20 : ((2 : Int) = 0) = False := by simp
theorem k21 : ((2 : Int) = 1) = False := by simp
theorem k30 : ((3 : Int) = 0) = False := by simp
theorem k31 : ((3 : Int) = 1) = False := by simp
theorem k32 : ((3 : Int) = 2) = False := by simp
theorem k40 : ((4 : Int) = 0) = False := by simp
theorem k41 : ((4 : Int) = 1) = False := by simp
theorem k42 : ((4 : Int) = 2) = False := by simp
theorem k43 : ((4 : Int) = 3) = False := by simp
theorem one_f {v : S35} (h : RightV v) (i : I64 v.f1) : ∃ X, code_one_f v.f0 v.f1 v.f2 = some X ∧ X.data.toList = encB v := by
  unfold code_one_f encB
  rcases h with ⟨a, b, c⟩ | ⟨a, b, c⟩ | ⟨a, b, c⟩ | ⟨a, c⟩ | ⟨a, b, c⟩
  · simp only [a, if_true]; exact ⟨_, rfl, rfl⟩
  · rcases b with b | b
    · simp only [a, b, k10, if_true, if_false]; exact ⟨_, rfl, rfl⟩
    · simp only [a, b, k10, if_true, if_false]; exact ⟨_, rfl, rfl⟩
  · simp only [a, k20, k21, if_true, if_false, turn32 b]
    obtain ⟨t, h1, h2, h3⟩ := put_be (a := v.f1 + 2147483648) (by omega) (by omega)
    refine ⟨_, by rw [h1]; rfl, ?_⟩
    rw [ByteArray.data_append, Array.toList_append, h3]
    rfl
  · simp only [a, k30, k31, k32, if_true, if_false, flip64 i]
    obtain ⟨i1, i2⟩ := i
    obtain ⟨t, h1, h2, h3⟩ := put_be (a := v.f1 + 9223372036854775808) (by omega) (by omega)
    refine ⟨_, by rw [Option.bind_some, h1]; rfl, ?_⟩
    rw [ByteArray.data_append, Array.toList_append, h2]
    rfl
  · simp only [a, b, k40, k41, k42, k43, if_true, if_false]
    obtain ⟨t, h1, h2⟩ := repl_ev c
    refine ⟨_, by rw [h1]; rfl, ?_⟩
    rw [ByteArray.data_append, ByteArray.data_append, Array.toList_append, Array.toList_append, h2]
    rfl
theorem esc_len : ∀ s : List UInt8, (esc s).length ≤ 2 * s.length
  | [] => by simp [esc]
  | c :: s => by
    have := esc_len s
    unfold esc
    split <;> simp only [List.length_cons] <;> omega
theorem encB_len {v : S35} (h : RightV v) : (encB v).length ≤ 500 := by
  unfold encB
  rcases h with ⟨a, b, c⟩ | ⟨a, b, c⟩ | ⟨a, b, c⟩ | ⟨a, c⟩ | ⟨a, b, c⟩
  · simp only [a, if_true]; simp
  · simp only [a, k10, if_true, if_false]; simp
  · simp only [a, k20, k21, if_true, if_false]; simp [be_len]
  · simp only [a, k30, k31, k32, if_true, if_false]; simp [be_len]
  · simp only [a, k40, k41, k42, k43, if_true, if_false]
    have := esc_len v.f2.toList
    have e : v.f2.toList.length = v.f2.size := by rw [ByteArray.toList_eq]; exact Array.length_toList
    simp only [List.length_cons, List.length_append, List.length_nil]
    omega
theorem enc_l : ∀ (l : List S35) (acc : ByteArray), (∀ v ∈ l, value_Right.f v.f0 v.f1 v.f2 = some true ∧ I64 v.f1) → acc.size + l.length * 500 ≤ 1000000000000 →
    ∃ X, ce_encL l acc = some (X, 0) ∧ X.data.toList = acc.data.toList ++ E l
  | [], acc, _, _ => ⟨acc, rfl, by simp [E]⟩
  | v :: l, acc, h, hs => by
    obtain ⟨h1, h2⟩ := h v (by simp)
    have hr := right_v h1
    obtain ⟨X, h3, h4⟩ := one_f hr h2
    have hx : X.size ≤ 500 := by
      have := encB_len hr
      rw [← h4, Array.length_toList] at this
      exact this
    simp only [List.length_cons] at hs
    obtain ⟨Y, h5, h6⟩ := enc_l l (acc ++ X) (fun w hw => h w (by simp [hw])) (by rw [ByteArray.size_append]; omega)
    refine ⟨Y, ?_, ?_⟩
    · simp only [ce_encL]
      rw [h1, Option.bind_some, if_pos rfl, h3, Option.bind_some, if_pos (by omega)]
      exact h5
    · rw [h6, ByteArray.data_append, Array.toList_append, h4, E_cons, List.append_assoc]
end Go.Proofs.YtinjibbjlcfkaaaDoor.Kk
