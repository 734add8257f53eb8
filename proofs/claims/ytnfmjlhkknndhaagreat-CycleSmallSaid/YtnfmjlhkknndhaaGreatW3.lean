/-
  Contracts of functions: the reference of layer 1: words, comparisons, signs.
-/
import Derived.Test.YtnfmjlhkknndhaaGreatW2

/-
 Contracts of functions: sums, differences, products of sizes.
-/
namespace Go.Proofs.YtnfmjlhkknndhaaGreat
open Go Go.RowKit
/-! ### nat.add -/
def s_nadd : FSpec
 | [.ws a, .ws b] => some (some (Wd a ∧ Wd b ∧ a.length ≤ 1000000000 ∧ b.length ≤ 1000000000), .ret (.ws (limbs (wv a + wv b).toNat)))
 | _ => none
structure AddS where
 x : List Int
 y : List Int
 i : Nat
 out : List Int
 c : Int
structure AddI (a b : List Int) (s : AddS) : Prop where
 xy : (s.x = a ∧ s.y = b) ∨ (s.x = b ∧ s.y = a)
 le : s.y.length ≤ s.x.length
 hi : s.i ≤ s.x.length + 1
 len : s.out.length = s.x.length + 1
 wd : Wd s.out
 c0 : 0 ≤ s.c ∧ s.c ≤ 1
 sum : wv (s.out.take s.i) + 4294967296 ^ s.i * s.c = wv (s.x.take s.i) + wv (s.y.take s.i)
 rest : s.out.drop s.i = (s.x ++ [0]).drop s.i
def a_nadd (a b : List Int) : Nat → MS → Option LoopAnn
 | 7, _ => some (.inv AddS (AddI a b) (fun s => ⟨52, [(0, .ws s.x), (1, .ws s.y), (5, .bs 0 0 (s.x.length + 1)), (6, .int .u32 s.c), (24, .int .i64 (s.x.length + 1)), (25, .int .i64 s.i)], [⟨false, .arr .u32 s.out⟩], 0⟩) (fun s => s.x.length + 1 - s.i))
 | _, _ => none
theorem vc_nadd (a b : List Int) : (bif decide ((↑(List.length a) : Int) < (↑(List.length b) : Int)) then ((0 : Int) ≤ IntKind.wrap IntKind.i64 ((↑(List.length b) : Int) + 1) ∧ IntKind.wrap IntKind.i64 ((↑(List.length b) : Int) + 1) = IntKind.wrap IntKind.i64 ((↑(List.length b) : Int) + 1) ∧ (↑(4 : Nat) : Int) * IntKind.wrap IntKind.i64 ((↑(List.length b) : Int) + 1) ≤ 140737488355328) ∧ (0 : Nat) + Int.toNat (IntKind.wrap IntKind.i64 ((↑(List.length b) : Int) + 1)) ≤ List.length (List.replicate (Int.toNat (IntKind.wrap IntKind.i64 ((↑(List.length b) : Int) + 1))) (0 : Int)) ∧ (∃ i, AddI a b i ∧ (b = AddS.x i ∧ a = AddS.y i ∧ ((0 : Nat) = 0 ∧ Int.toNat (IntKind.wrap IntKind.i64 ((↑(List.length b) : Int) + 1)) = List.length (AddS.x i) + 1) ∧ (0 : Int) = AddS.c i ∧ (↑(Int.toNat (IntKind.wrap IntKind.i64 ((↑(List.length b) : Int) + 1))) : Int) = (↑(List.length (AddS.x i)) : Int) + 1 ∧ (0 : Int) = (↑(AddS.i i) : Int) ∧ True) ∧ List.take (0 : Nat) (List.replicate (Int.toNat (IntKind.wrap IntKind.i64 ((↑(List.length b) : Int) + 1))) (0 : Int)) ++ List.take (Int.toNat (IntKind.wrap IntKind.i64 ((↑(List.length b) : Int) + 1))) b ++ List.drop ((0 : Nat) + min (List.length b) (Int.toNat (IntKind.wrap IntKind.i64 ((↑(List.length b) : Int) + 1)))) (List.replicate (Int.toNat (IntKind.wrap IntKind.i64 ((↑(List.length b) : Int) + 1))) (0 : Int)) = AddS.out i ∧ True) ∧ ∀ (i : AddS), AddI a b i → bif decide ((↑(AddS.i i) : Int) < (↑(List.length (AddS.x i)) : Int) + 1) then bif decide ((↑(AddS.i i) : Int) < (↑(List.length (AddS.y i)) : Int)) then ((0 : Int) ≤ (↑(AddS.i i) : Int) ∧ (↑(AddS.i i) : Int) < (↑(List.length (AddS.y i)) : Int)) ∧ ((0 : Int) ≤ (↑(AddS.i i) : Int) ∧ (↑(AddS.i i) : Int) < (↑(List.length (AddS.x i) + 1) : Int)) ∧ (0 : Nat) + Int.toNat (↑(AddS.i i) : Int) < List.length (AddS.out i) ∧ ((0 : Int) ≤ List.getD (AddS.out i) ((0 : Nat) + Int.toNat (↑(AddS.i i) : Int)) (0 : Int) ∧ List.getD (AddS.out i) ((0 : Nat) + Int.toNat (↑(AddS.i i) : Int)) (0 : Int) < 4294967296 ∧ (0 : Int) ≤ List.getD (AddS.y i) (Int.toNat (↑(AddS.i i) : Int)) (0 : Int) ∧ List.getD (AddS.y i) (Int.toNat (↑(AddS.i i) : Int)) (0 : Int) < 4294967296 ∧ (0 : Int) ≤ AddS.c i ∧ AddS.c i ≤ 1) ∧ ((0 : Int) ≤ (↑(AddS.i i) : Int) ∧ (↑(AddS.i i) : Int) < (↑(List.length (AddS.x i) + 1) : Int)) ∧ (0 : Nat) + Int.toNat (↑(AddS.i i) : Int) < List.length (AddS.out i) ∧ ∃ j, AddI a b j ∧ ((AddS.x i = AddS.x j ∧ AddS.y i = AddS.y j ∧ ((0 : Nat) = 0 ∧ List.length (AddS.x i) + 1 = List.length (AddS.x j) + 1) ∧ (List.getD (AddS.out i) ((0 : Nat) + Int.toNat (↑(AddS.i i) : Int)) (0 : Int) + List.getD (AddS.y i) (Int.toNat (↑(AddS.i i) : Int)) (0 : Int) + AddS.c i) / 4294967296 = AddS.c j ∧ (↑(List.length (AddS.x i)) : Int) + 1 = (↑(List.length (AddS.x j)) : Int) + 1 ∧ IntKind.wrap IntKind.i64 ((↑(AddS.i i) : Int) + 1) = (↑(AddS.i j) : Int) ∧ True) ∧ List.set (AddS.out i) ((0 : Nat) + Int.toNat (↑(AddS.i i) : Int)) ((List.getD (AddS.out i) ((0 : Nat) + Int.toNat (↑(AddS.i i) : Int)) (0 : Int) + List.getD (AddS.y i) (Int.toNat (↑(AddS.i i) : Int)) (0 : Int) + AddS.c i) % 4294967296) = AddS.out j ∧ True) ∧ List.length (AddS.x j) + 1 - AddS.i j < List.length (AddS.x i) + 1 - AddS.i i else ((0 : Int) ≤ (↑(AddS.i i) : Int) ∧ (↑(AddS.i i) : Int) < (↑(List.length (AddS.x i) + 1) : Int)) ∧ (0 : Nat) + Int.toNat (↑(AddS.i i) : Int) < List.length (AddS.out i) ∧ ((0 : Int) ≤ List.getD (AddS.out i) ((0 : Nat) + Int.toNat (↑(AddS.i i) : Int)) (0 : Int) ∧ List.getD (AddS.out i) ((0 : Nat) + Int.toNat (↑(AddS.i i) : Int)) (0 : Int) < 4294967296 ∧ (0 : Int) ≤ 0 ∧ (0 : Int) < 4294967296 ∧ (0 : Int) ≤ AddS.c i ∧ AddS.c i ≤ 1) ∧ ((0 : Int) ≤ (↑(AddS.i i) : Int) ∧ (↑(AddS.i i) : Int) < (↑(List.length (AddS.x i) + 1) : Int)) ∧ (0 : Nat) + Int.toNat (↑(AddS.i i) : Int) < List.length (AddS.out i) ∧ ∃ j, AddI a b j ∧ ((AddS.x i = AddS.x j ∧ AddS.y i = AddS.y j ∧ ((0 : Nat) = 0 ∧ List.length (AddS.x i) + 1 = List.length (AddS.x j) + 1) ∧ (List.getD (AddS.out i) ((0 : Nat) + Int.toNat (↑(AddS.i i) : Int)) (0 : Int) + 0 + AddS.c i) / 4294967296 = AddS.c j ∧ (↑(List.length (AddS.x i)) : Int) + 1 = (↑(List.length (AddS.x j)) : Int) + 1 ∧ IntKind.wrap IntKind.i64 ((↑(AddS.i i) : Int) + 1) = (↑(AddS.i j) : Int) ∧ True) ∧ List.set (AddS.out i) ((0 : Nat) + Int.toNat (↑(AddS.i i) : Int)) ((List.getD (AddS.out i) ((0 : Nat) + Int.toNat (↑(AddS.i i) : Int)) (0 : Int) + 0 + AddS.c i) % 4294967296) = AddS.out j ∧ True) ∧ List.length (AddS.x j) + 1 - AddS.i j < List.length (AddS.x i) + 1 - AddS.i i else ((0 : Nat) + (List.length (AddS.x i) + 1) ≤ List.length (AddS.out i) ∧ (∀ (x : Int), x ∈ List.take (List.length (AddS.x i) + 1) (List.drop (0 : Nat) (AddS.out i)) → (0 : Int) ≤ x ∧ x < 4294967296) ∧ List.length (List.take (List.length (AddS.x i) + 1) (List.drop (0 : Nat) (AddS.out i))) ≤ 1099511627776) ∧ limbs (Int.toNat (wv (List.take (List.length (AddS.x i) + 1) (List.drop (0 : Nat) (AddS.out i))))) = limbs (Int.toNat (wv a + wv b)) else ((0 : Int) ≤ IntKind.wrap IntKind.i64 ((↑(List.length a) : Int) + 1) ∧ IntKind.wrap IntKind.i64 ((↑(List.length a) : Int) + 1) = IntKind.wrap IntKind.i64 ((↑(List.length a) : Int) + 1) ∧ (↑(4 : Nat) : Int) * IntKind.wrap IntKind.i64 ((↑(List.length a) : Int) + 1) ≤ 140737488355328) ∧ (0 : Nat) + Int.toNat (IntKind.wrap IntKind.i64 ((↑(List.length a) : Int) + 1)) ≤ List.length (List.replicate (Int.toNat (IntKind.wrap IntKind.i64 ((↑(List.length a) : Int) + 1))) (0 : Int)) ∧ (∃ i, AddI a b i ∧ (a = AddS.x i ∧ b = AddS.y i ∧ ((0 : Nat) = 0 ∧ Int.toNat (IntKind.wrap IntKind.i64 ((↑(List.length a) : Int) + 1)) = List.length (AddS.x i) + 1) ∧ (0 : Int) = AddS.c i ∧ (↑(Int.toNat (IntKind.wrap IntKind.i64 ((↑(List.length a) : Int) + 1))) : Int) = (↑(List.length (AddS.x i)) : Int) + 1 ∧ (0 : Int) = (↑(AddS.i i) : Int) ∧ True) ∧ List.take (0 : Nat) (List.replicate (Int.toNat (IntKind.wrap IntKind.i64 ((↑(List.length a) : Int) + 1))) (0 : Int)) ++ List.take (Int.toNat (IntKind.wrap IntKind.i64 ((↑(List.length a) : Int) + 1))) a ++ List.drop ((0 : Nat) + min (List.length a) (Int.toNat (IntKind.wrap IntKind.i64 ((↑(List.length a) : Int) + 1)))) (List.replicate (Int.toNat (IntKind.wrap IntKind.i64 ((↑(List.length a) : Int) + 1))) (0 : Int)) = AddS.out i ∧ True) ∧ ∀ (i : AddS), AddI a b i → bif decide ((↑(AddS.i i) : Int) < (↑(List.length (AddS.x i)) : Int) + 1) then bif decide ((↑(AddS.i i) : Int) < (↑(List.length (AddS.y i)) : Int)) then ((0 : Int) ≤ (↑(AddS.i i) : Int) ∧ (↑(AddS.i i) : Int) < (↑(List.length (AddS.y i)) : Int)) ∧ ((0 : Int) ≤ (↑(AddS.i i) : Int) ∧ (↑(AddS.i i) : Int) < (↑(List.length (AddS.x i) + 1) : Int)) ∧ (0 : Nat) + Int.toNat (↑(AddS.i i) : Int) < List.length (AddS.out i) ∧ ((0 : Int) ≤ List.getD (AddS.out i) ((0 : Nat) + Int.toNat (↑(AddS.i i) : Int)) (0 : Int) ∧ List.getD (AddS.out i) ((0 : Nat) + Int.toNat (↑(AddS.i i) : Int)) (0 : Int) < 4294967296 ∧ (0 : Int) ≤ List.getD (AddS.y i) (Int.toNat (↑(AddS.i i) : Int)) (0 : Int) ∧ List.getD (AddS.y i) (Int.toNat (↑(AddS.i i) : Int)) (0 : Int) < 4294967296 ∧ (0 : Int) ≤ AddS.c i ∧ AddS.c i ≤ 1) ∧ ((0 : Int) ≤ (↑(AddS.i i) : Int) ∧ (↑(AddS.i i) : Int) < (↑(List.length (AddS.x i) + 1) : Int)) ∧ (0 : Nat) + Int.toNat (↑(AddS.i i) : Int) < List.length (AddS.out i) ∧ ∃ j, AddI a b j ∧ ((AddS.x i = AddS.x j ∧ AddS.y i = AddS.y j ∧ ((0 : Nat) = 0 ∧ List.length (AddS.x i) + 1 = List.length (AddS.x j) + 1) ∧ (List.getD (AddS.out i) ((0 : Nat) + Int.toNat (↑(AddS.i i) : Int)) (0 : Int) + List.getD (AddS.y i) (Int.toNat (↑(AddS.i i) : Int)) (0 : Int) + AddS.c i) / 4294967296 = AddS.c j ∧ (↑(List.length (AddS.x i)) : Int) + 1 = (↑(List.length (AddS.x j)) : Int) + 1 ∧ IntKind.wrap IntKind.i64 ((↑(AddS.i i) : Int) + 1) = (↑(AddS.i j) : Int) ∧ True) ∧ List.set (AddS.out i) ((0 : Nat) + Int.toNat (↑(AddS.i i) : Int)) ((List.getD (AddS.out i) ((0 : Nat) + Int.toNat (↑(AddS.i i) : Int)) (0 : Int) + List.getD (AddS.y i) (Int.toNat (↑(AddS.i i) : Int)) (0 : Int) + AddS.c i) % 4294967296) = AddS.out j ∧ True) ∧ List.length (AddS.x j) + 1 - AddS.i j < List.length (AddS.x i) + 1 - AddS.i i else ((0 : Int) ≤ (↑(AddS.i i) : Int) ∧ (↑(AddS.i i) : Int) < (↑(List.length (AddS.x i) + 1) : Int)) ∧ (0 : Nat) + Int.toNat (↑(AddS.i i) : Int) < List.length (AddS.out i) ∧ ((0 : Int) ≤ List.getD (AddS.out i) ((0 : Nat) + Int.toNat (↑(AddS.i i) : Int)) (0 : Int) ∧ List.getD (AddS.out i) ((0 : Nat) + Int.toNat (↑(AddS.i i) : Int)) (0 : Int) < 4294967296 ∧ (0 : Int) ≤ 0 ∧ (0 : Int) < 4294967296 ∧ (0 : Int) ≤ AddS.c i ∧ AddS.c i ≤ 1) ∧ ((0 : Int) ≤ (↑(AddS.i i) : Int) ∧ (↑(AddS.i i) : Int) < (↑(List.length (AddS.x i) + 1) : Int)) ∧ (0 : Nat) + Int.toNat (↑(AddS.i i) : Int) < List.length (AddS.out i) ∧ ∃ j, AddI a b j ∧ ((AddS.x i = AddS.x j ∧ AddS.y i = AddS.y j ∧ ((0 : Nat) = 0 ∧ List.length (AddS.x i) + 1 = List.length (AddS.x j) + 1) ∧ (List.getD (AddS.out i) ((0 : Nat) + Int.toNat (↑(AddS.i i) : Int)) (0 : Int) + 0 + AddS.c i) / 4294967296 = AddS.c j ∧ (↑(List.length (AddS.x i)) : Int) + 1 = (↑(List.length (AddS.x j)) : Int) + 1 ∧ IntKind.wrap IntKind.i64 ((↑(AddS.i i) : Int) + 1) = (↑(AddS.i j) : Int) ∧ True) ∧ List.set (AddS.out i) ((0 : Nat) + Int.toNat (↑(AddS.i i) : Int)) ((List.getD (AddS.out i) ((0 : Nat) + Int.toNat (↑(AddS.i i) : Int)) (0 : Int) + 0 + AddS.c i) % 4294967296) = AddS.out j ∧ True) ∧ List.length (AddS.x j) + 1 - AddS.i j < List.length (AddS.x i) + 1 - AddS.i i else ((0 : Nat) + (List.length (AddS.x i) + 1) ≤ List.length (AddS.out i) ∧ (∀ (x : Int), x ∈ List.take (List.length (AddS.x i) + 1) (List.drop (0 : Nat) (AddS.out i)) → (0 : Int) ≤ x ∧ x < 4294967296) ∧ List.length (List.take (List.length (AddS.x i) + 1) (List.drop (0 : Nat) (AddS.out i))) ≤ 1099511627776) ∧ limbs (Int.toNat (wv (List.take (List.length (AddS.x i) + 1) (List.drop (0 : Nat) (AddS.out i))))) = limbs (Int.toNat (wv a + wv b))) = evFn (env [c_add32, c_trim] (a_nadd a b)) Tryz.f105 [.ws a, .ws b] (MRes.sat (.ret (.ws (limbs (wv a + wv b).toNat)))) := by kernel_rfl
theorem AddI.step {a b : List Int} {s : AddS} (h : AddI a b s) (ha : Wd a) (hb : Wd b) (hi : s.i < s.x.length + 1) (y : Int) (hy : y = s.y.getD s.i 0) :
  AddI a b ⟨s.x, s.y, s.i + 1, s.out.set s.i ((s.out.getD s.i 0 + y + s.c) % 4294967296), (s.out.getD s.i 0 + y + s.c) / 4294967296⟩ := by
 have hyw : Wd s.y := by rcases h.xy with ⟨_, e⟩ | ⟨_, e⟩ <;> rw [e] <;> assumption
 have h1 := h.wd.getD s.i
 have h2 := hyw.getD s.i
 have h3 := h.c0
 rw [← hy] at h2
 have ho : s.out.getD s.i 0 = s.x.getD s.i 0 := by
  rw [getD_of_drop h.rest s.i (Nat.le_refl _)]
  rcases Nat.lt_or_ge s.i s.x.length with q | q
  ·simp [List.getElem?_append_left q]
  ·have e : s.i = s.x.length := by omega
   rw [e]; simp
 have hl : s.i < s.out.length := by rw [h.len]; omega
 refine ⟨h.xy, h.le, by show s.i + 1 ≤ s.x.length + 1; omega, by simp [h.len], h.wd.set _ (by omega), by show 0 ≤ (s.out.getD s.i 0 + y + s.c) / 4294967296 ∧ (s.out.getD s.i 0 + y + s.c) / 4294967296 ≤ 1; omega, ?_, ?_⟩
 ·show wv ((s.out.set s.i ((s.out.getD s.i 0 + y + s.c) % 4294967296)).take (s.i + 1)) + 4294967296 ^ (s.i + 1) * ((s.out.getD s.i 0 + y + s.c) / 4294967296) = wv (s.x.take (s.i + 1)) + wv (s.y.take (s.i + 1))
  rw [wv_take_set _ hl, wv_take_succ, wv_take_succ, ← hy, ← ho, Int.pow_succ]
  have := carry_step (4294967296 ^ s.i) (s.out.getD s.i 0 + y + s.c)
  have h4 := h.sum
  rw [Int.mul_add, Int.mul_add] at this
  omega
 ·show (s.out.set s.i _).drop (s.i + 1) = (s.x ++ [0]).drop (s.i + 1)
  rw [drop_set]; exact drop_of_drop h.rest
theorem AddI.init {a b x y : List Int} (h : (x = a ∧ y = b) ∨ (x = b ∧ y = a)) (hl : y.length ≤ x.length) (hw : Wd x) : AddI a b ⟨x, y, 0, x ++ [0], 0⟩ :=
 ⟨h, hl, by show 0 ≤ _; omega, by simp, hw.append (fun z hz => by simp at hz; subst hz; omega), ⟨Int.le_refl _, by show (0 : Int) ≤ 1; omega⟩, by simp [wv], rfl⟩
theorem pow_pos32 (k : Nat) : (0 : Int) < 4294967296 ^ k := Int.pow_pos (by omega)
theorem pow_le32 {j k : Nat} (h : j ≤ k) : (4294967296 : Int) ^ j ≤ 4294967296 ^ k := by
 have := Nat.pow_le_pow_right (show 0 < 4294967296 by omega) h
 have e : ∀ k : Nat, ((4294967296 ^ k : Nat) : Int) = (4294967296 : Int) ^ k := fun k => by simp [Int.natCast_pow]
 rw [← e, ← e]
 exact Int.ofNat_le.2 this
theorem AddI.fin {a b : List Int} {s : AddS} (h : AddI a b s) (ha : Wd a) (hb : Wd b) (hi : ¬ s.i < s.x.length + 1) : wv s.out = wv a + wv b := by
 have e : s.i = s.x.length + 1 := by have := h.hi; omega
 have h1 := h.sum
 rw [e, wv_take_all (by rw [h.len]; omega), wv_take_all (by omega), wv_take_all (by have := h.le; omega)] at h1
 have hxw : Wd s.x := by rcases h.xy with ⟨e, _⟩ | ⟨e, _⟩ <;> rw [e] <;> assumption
 have hyw : Wd s.y := by rcases h.xy with ⟨_, e⟩ | ⟨_, e⟩ <;> rw [e] <;> assumption
 have h2 := wv_lt hxw
 have h3 := wv_lt hyw
 have h4 := pow_le32 h.le
 have h5 := wv_nonneg h.wd
 have h6 := pow_pos32 s.x.length
 have h7 := h.c0
 have hs : wv s.x + wv s.y = wv a + wv b := by rcases h.xy with ⟨e1, e2⟩ | ⟨e1, e2⟩ <;> rw [e1, e2] <;> omega
 have hc : s.c = 0 := by
  rcases (show s.c = 0 ∨ s.c = 1 by omega) with q | q
  ·exact q
  ·rw [q, Int.mul_one, Int.pow_succ] at h1; omega
 rw [hc] at h1
 omega
theorem p_nadd : Good Tryz.f105 s_nadd := by
 intro ms p r h hp
 unfold s_nadd at h
 split at h
 ·rename_i a b
  simp only [Option.some.injEq, Prod.mk.injEq] at h
  obtain ⟨rfl, rfl⟩ := h
  obtain ⟨ha, hb, la, lb⟩ : Wd a ∧ Wd b ∧ a.length ≤ 1000000000 ∧ b.length ≤ 1000000000 := hp
  refine ⟨env [c_add32, c_trim] (a_nadd a b), ?_⟩
  rw [← vc_nadd a b]
  have ew : ∀ l : List Int, l.length ≤ 1000000000 → IntKind.i64.wrap ((l.length : Int) + 1) = l.length + 1 := fun l hl => i64w (by omega) (by omega)
  have et : ∀ l : List Int, ((l.length : Int) + 1).toNat = l.length + 1 := fun l => by omega
  have el : ∀ l : List Int, l.take (l.length + 1) = l := fun l => List.take_of_length_le (by omega)
  have ed : ∀ l : List Int, (List.replicate (l.length + 1) (0 : Int)).drop (min l.length (l.length + 1)) = [0] := fun l => by
   rw [Nat.min_eq_left (by omega), List.drop_replicate, show l.length + 1 - l.length = 1 by omega]; rfl
  simp only [Bool.cond_decide, ew a la, ew b lb, et, Nat.zero_add, List.take_zero, List.nil_append, List.drop_zero, el, ed, Int.toNat_natCast]
  refine ite_share (fun h => ?_) (fun h => ?_) (fun s hs => ?_)
  ·refine ⟨by and_intros <;> first | exact True.intro | omega, by simp, ⟨b, a, 0, b ++ [0], 0⟩, AddI.init (.inr ⟨rfl, rfl⟩) (by omega) hb, ?_⟩
   and_intros <;> first | exact True.intro | rfl | simp
  ·refine ⟨by and_intros <;> first | exact True.intro | omega, by simp, ⟨a, b, 0, a ++ [0], 0⟩, AddI.init (.inl ⟨rfl, rfl⟩) (by omega) ha, ?_⟩
   and_intros <;> first | exact True.intro | rfl | simp
  ·have hxl : s.x.length ≤ 1000000000 := by rcases hs.xy with ⟨e, _⟩ | ⟨e, _⟩ <;> rw [e] <;> assumption
   have hyw : Wd s.y := by rcases hs.xy with ⟨_, e⟩ | ⟨_, e⟩ <;> rw [e] <;> assumption
   have h1 := hs.wd.getD s.i
   have h2 := hyw.getD s.i
   have h3 := hs.c0
   have h4 := hs.len
   split
   ·rename_i hlt
    have hi : s.i < s.x.length + 1 := by omega
    have e1 : IntKind.i64.wrap ((s.i : Int) + 1) = ((s.i + 1 : Nat) : Int) := by rw [i64w (by omega) (by omega)]; omega
    rw [e1]
    split
    ·refine ⟨by omega, by omega, by omega, by omega, by omega, by omega, _, hs.step ha hb hi (s.y.getD s.i 0) rfl, by and_intros <;> first | exact True.intro | rfl, ?_⟩
     show s.x.length + 1 - (s.i + 1) < s.x.length + 1 - s.i
     omega
    ·refine ⟨by omega, by omega, by omega, by omega, by omega, _, hs.step ha hb hi 0 ?_, by and_intros <;> first | exact True.intro | rfl, ?_⟩
     ·have : s.y.length ≤ s.i := by omega
      simp [List.getElem?_eq_none this]
     ·show s.x.length + 1 - (s.i + 1) < s.x.length + 1 - s.i
      omega
   ·rename_i hlt
    have hf := hs.fin ha hb (by omega)
    have e2 : s.out.take (s.x.length + 1) = s.out := List.take_of_length_le (by omega)
    rw [e2, hf]
    exact ⟨⟨by omega, hs.wd, by omega⟩, rfl⟩
 ·simp at h
def c_nadd : Ctr Tryz.prog := ⟨105, s_nadd, fun args w => Tryz.call105 args w, fn_ok mix Tryz.func105 s_nadd p_nadd⟩
/-! ### nat.sub -/
def s_nsub : FSpec
 | [.ws a, .ws b] => some (some (Wd a ∧ Wd b ∧ wv b ≤ wv a ∧ b.length ≤ a.length ∧ a.length ≤ 1000000000), .ret (.ws (limbs (wv a - wv b).toNat)))
 | _ => none
structure SubI (a b : List Int) (s : AddS) : Prop where
 hi : s.i ≤ a.length
 len : s.out.length = a.length
 wd : Wd s.out
 c0 : 0 ≤ s.c ∧ s.c ≤ 1
 sum : wv (s.out.take s.i) - 4294967296 ^ s.i * s.c = wv (a.take s.i) - wv (b.take s.i)
 rest : s.out.drop s.i = a.drop s.i
def a_nsub (a b : List Int) : Nat → MS → Option LoopAnn
 | 5, _ => some (.inv AddS (SubI a b) (fun s => ⟨44, [(0, .ws a), (1, .ws b), (5, .bs 0 0 a.length), (6, .int .u32 s.c), (16, .int .i64 a.length), (17, .int .i64 s.i)], [⟨false, .arr .u32 s.out⟩], 0⟩) (fun s => a.length - s.i))
 | _, _ => none
theorem vc_nsub (a b : List Int) : (((0 : Int) ≤ (↑(List.length a) : Int) ∧ (↑(List.length a) : Int) = (↑(List.length a) : Int) ∧ (↑(4 : Nat) : Int) * (↑(List.length a) : Int) ≤ 140737488355328) ∧ (0 : Nat) + Int.toNat (↑(List.length a) : Int) ≤ List.length (List.replicate (Int.toNat (↑(List.length a) : Int)) (0 : Int)) ∧ (∃ i, SubI a b i ∧ (a = a ∧ b = b ∧ ((0 : Nat) = 0 ∧ Int.toNat (↑(List.length a) : Int) = List.length a) ∧ (0 : Int) = AddS.c i ∧ (↑(Int.toNat (↑(List.length a) : Int)) : Int) = (↑(List.length a) : Int) ∧ (0 : Int) = (↑(AddS.i i) : Int) ∧ True) ∧ List.take (0 : Nat) (List.replicate (Int.toNat (↑(List.length a) : Int)) (0 : Int)) ++ List.take (Int.toNat (↑(List.length a) : Int)) a ++ List.drop ((0 : Nat) + min (List.length a) (Int.toNat (↑(List.length a) : Int))) (List.replicate (Int.toNat (↑(List.length a) : Int)) (0 : Int)) = AddS.out i ∧ True) ∧ ∀ (i : AddS), SubI a b i → bif decide ((↑(AddS.i i) : Int) < (↑(List.length a) : Int)) then bif decide ((↑(AddS.i i) : Int) < (↑(List.length b) : Int)) then ((0 : Int) ≤ (↑(AddS.i i) : Int) ∧ (↑(AddS.i i) : Int) < (↑(List.length b) : Int)) ∧ ((0 : Int) ≤ (↑(AddS.i i) : Int) ∧ (↑(AddS.i i) : Int) < (↑(List.length a) : Int)) ∧ (0 : Nat) + Int.toNat (↑(AddS.i i) : Int) < List.length (AddS.out i) ∧ ((0 : Int) ≤ List.getD (AddS.out i) ((0 : Nat) + Int.toNat (↑(AddS.i i) : Int)) (0 : Int) ∧ List.getD (AddS.out i) ((0 : Nat) + Int.toNat (↑(AddS.i i) : Int)) (0 : Int) < 4294967296 ∧ (0 : Int) ≤ List.getD b (Int.toNat (↑(AddS.i i) : Int)) (0 : Int) ∧ List.getD b (Int.toNat (↑(AddS.i i) : Int)) (0 : Int) < 4294967296 ∧ (0 : Int) ≤ AddS.c i ∧ AddS.c i ≤ 1) ∧ ((0 : Int) ≤ (↑(AddS.i i) : Int) ∧ (↑(AddS.i i) : Int) < (↑(List.length a) : Int)) ∧ (0 : Nat) + Int.toNat (↑(AddS.i i) : Int) < List.length (AddS.out i) ∧ ∃ j, SubI a b j ∧ ((a = a ∧ b = b ∧ ((0 : Nat) = 0 ∧ List.length a = List.length a) ∧ (if List.getD (AddS.out i) ((0 : Nat) + Int.toNat (↑(AddS.i i) : Int)) (0 : Int) < List.getD b (Int.toNat (↑(AddS.i i) : Int)) (0 : Int) + AddS.c i then (1 : Int) else (0 : Int)) = AddS.c j ∧ (↑(List.length a) : Int) = (↑(List.length a) : Int) ∧ IntKind.wrap IntKind.i64 ((↑(AddS.i i) : Int) + 1) = (↑(AddS.i j) : Int) ∧ True) ∧ List.set (AddS.out i) ((0 : Nat) + Int.toNat (↑(AddS.i i) : Int)) ((List.getD (AddS.out i) ((0 : Nat) + Int.toNat (↑(AddS.i i) : Int)) (0 : Int) - List.getD b (Int.toNat (↑(AddS.i i) : Int)) (0 : Int) - AddS.c i) % 4294967296) = AddS.out j ∧ True) ∧ List.length a - AddS.i j < List.length a - AddS.i i else ((0 : Int) ≤ (↑(AddS.i i) : Int) ∧ (↑(AddS.i i) : Int) < (↑(List.length a) : Int)) ∧ (0 : Nat) + Int.toNat (↑(AddS.i i) : Int) < List.length (AddS.out i) ∧ ((0 : Int) ≤ List.getD (AddS.out i) ((0 : Nat) + Int.toNat (↑(AddS.i i) : Int)) (0 : Int) ∧ List.getD (AddS.out i) ((0 : Nat) + Int.toNat (↑(AddS.i i) : Int)) (0 : Int) < 4294967296 ∧ (0 : Int) ≤ 0 ∧ (0 : Int) < 4294967296 ∧ (0 : Int) ≤ AddS.c i ∧ AddS.c i ≤ 1) ∧ ((0 : Int) ≤ (↑(AddS.i i) : Int) ∧ (↑(AddS.i i) : Int) < (↑(List.length a) : Int)) ∧ (0 : Nat) + Int.toNat (↑(AddS.i i) : Int) < List.length (AddS.out i) ∧ ∃ j, SubI a b j ∧ ((a = a ∧ b = b ∧ ((0 : Nat) = 0 ∧ List.length a = List.length a) ∧ (if List.getD (AddS.out i) ((0 : Nat) + Int.toNat (↑(AddS.i i) : Int)) (0 : Int) < 0 + AddS.c i then (1 : Int) else (0 : Int)) = AddS.c j ∧ (↑(List.length a) : Int) = (↑(List.length a) : Int) ∧ IntKind.wrap IntKind.i64 ((↑(AddS.i i) : Int) + 1) = (↑(AddS.i j) : Int) ∧ True) ∧ List.set (AddS.out i) ((0 : Nat) + Int.toNat (↑(AddS.i i) : Int)) ((List.getD (AddS.out i) ((0 : Nat) + Int.toNat (↑(AddS.i i) : Int)) (0 : Int) - 0 - AddS.c i) % 4294967296) = AddS.out j ∧ True) ∧ List.length a - AddS.i j < List.length a - AddS.i i else ((0 : Nat) + List.length a ≤ List.length (AddS.out i) ∧ (∀ (x : Int), x ∈ List.take (List.length a) (List.drop (0 : Nat) (AddS.out i)) → (0 : Int) ≤ x ∧ x < 4294967296) ∧ List.length (List.take (List.length a) (List.drop (0 : Nat) (AddS.out i))) ≤ 1099511627776) ∧ limbs (Int.toNat (wv (List.take (List.length a) (List.drop (0 : Nat) (AddS.out i))))) = limbs (Int.toNat (wv a - wv b))) = evFn (env [c_sub32, c_trim] (a_nsub a b)) Tryz.f106 [.ws a, .ws b] (MRes.sat (.ret (.ws (limbs (wv a - wv b).toNat)))) := by kernel_rfl
theorem SubI.step {a b : List Int} {s : AddS} (h : SubI a b s) (hb : Wd b) (hi : s.i < a.length) (y : Int) (hy : y = b.getD s.i 0) :
  SubI a b ⟨s.x, s.y, s.i + 1, s.out.set s.i ((s.out.getD s.i 0 - y - s.c) % 4294967296), if s.out.getD s.i 0 < y + s.c then 1 else 0⟩ := by
 have h1 := h.wd.getD s.i
 have h2 := hb.getD s.i
 have h3 := h.c0
 rw [← hy] at h2
 have ho : s.out.getD s.i 0 = a.getD s.i 0 := getD_of_drop h.rest s.i (Nat.le_refl _)
 have hl : s.i < s.out.length := by rw [h.len]; omega
 refine ⟨by show s.i + 1 ≤ a.length; omega, by simp [h.len], h.wd.set _ (by omega), by show 0 ≤ (if s.out.getD s.i 0 < y + s.c then (1 : Int) else 0) ∧ (if s.out.getD s.i 0 < y + s.c then (1 : Int) else 0) ≤ 1; split <;> omega, ?_, ?_⟩
 ·show wv ((s.out.set s.i ((s.out.getD s.i 0 - y - s.c) % 4294967296)).take (s.i + 1)) - 4294967296 ^ (s.i + 1) * (if s.out.getD s.i 0 < y + s.c then 1 else 0) = wv (a.take (s.i + 1)) - wv (b.take (s.i + 1))
  rw [wv_take_set _ hl, wv_take_succ, wv_take_succ, ← hy, ← ho, Int.pow_succ]
  have := carry_step (4294967296 ^ s.i) (s.out.getD s.i 0 - y - s.c)
  have h4 := h.sum
  have h5 : (s.out.getD s.i 0 - y - s.c) / 4294967296 = -(if s.out.getD s.i 0 < y + s.c then 1 else 0) := by split <;> omega
  rw [h5, Int.mul_sub, Int.mul_sub, Int.mul_neg] at this
  omega
 ·show (s.out.set s.i _).drop (s.i + 1) = a.drop (s.i + 1)
  rw [drop_set]; exact drop_of_drop h.rest
theorem SubI.fin {a b : List Int} {s : AddS} (h : SubI a b s) (hle : wv b ≤ wv a) (hl : b.length ≤ a.length) (hi : ¬ s.i < a.length) : wv s.out = wv a - wv b := by
 have e : s.i = a.length := by have := h.hi; omega
 have h1 := h.sum
 rw [e, wv_take_all (by rw [h.len]; omega), wv_take_all (by omega), wv_take_all (by omega)] at h1
 have h2 := wv_lt h.wd
 rw [h.len] at h2
 have h6 := pow_pos32 a.length
 have h7 := h.c0
 have hc : s.c = 0 := by
  rcases (show s.c = 0 ∨ s.c = 1 by omega) with q | q
  ·exact q
  ·rw [q, Int.mul_one] at h1; omega
 rw [hc] at h1
 omega
theorem p_nsub : Good Tryz.f106 s_nsub := by
 intro ms p r h hp
 unfold s_nsub at h
 split at h
 ·rename_i a b
  simp only [Option.some.injEq, Prod.mk.injEq] at h
  obtain ⟨rfl, rfl⟩ := h
  obtain ⟨ha, hb, hle, hl, la⟩ : Wd a ∧ Wd b ∧ wv b ≤ wv a ∧ b.length ≤ a.length ∧ a.length ≤ 1000000000 := hp
  refine ⟨env [c_sub32, c_trim] (a_nsub a b), ?_⟩
  rw [← vc_nsub a b]
  have ed : (List.replicate a.length (0 : Int)).drop (min a.length a.length) = [] := by simp
  simp only [Bool.cond_decide, Nat.zero_add, List.take_zero, List.nil_append, List.drop_zero, ed, Int.toNat_natCast, List.take_length, List.append_nil]
  refine ⟨by and_intros <;> first | exact True.intro | omega, by simp, ⟨⟨a, b, 0, a, 0⟩, ⟨by show 0 ≤ _; omega, rfl, ha, ⟨Int.le_refl _, by show (0 : Int) ≤ 1; omega⟩, by simp [wv], rfl⟩, ?_⟩, fun s hs => ?_⟩
  ·and_intros <;> first | exact True.intro | rfl
  ·have h1 := hs.wd.getD s.i
   have h2 := hb.getD s.i
   have h3 := hs.c0
   have h4 := hs.len
   split
   ·rename_i hlt
    have hi : s.i < a.length := by omega
    have e1 : IntKind.i64.wrap ((s.i : Int) + 1) = ((s.i + 1 : Nat) : Int) := by rw [i64w (by omega) (by omega)]; omega
    rw [e1]
    split
    ·refine ⟨by omega, by omega, by omega, by omega, by omega, by omega, _, hs.step hb hi (b.getD s.i 0) rfl, by and_intros <;> first | exact True.intro | rfl, ?_⟩
     show a.length - (s.i + 1) < a.length - s.i
     omega
    ·refine ⟨by omega, by omega, by omega, by omega, by omega, _, hs.step hb hi 0 ?_, by and_intros <;> first | exact True.intro | rfl, ?_⟩
     ·have : b.length ≤ s.i := by omega
      simp [List.getElem?_eq_none this]
     ·show a.length - (s.i + 1) < a.length - s.i
      omega
   ·rename_i hlt
    have hf := hs.fin hle hl (by omega)
    have e2 : s.out.take a.length = s.out := List.take_of_length_le (by omega)
    rw [e2, hf]
    exact ⟨⟨by omega, hs.wd, by omega⟩, rfl⟩
 ·simp at h
def c_nsub : Ctr Tryz.prog := ⟨106, s_nsub, fun args w => Tryz.call106 args w, fn_ok mix Tryz.func106 s_nsub p_nsub⟩
/-! ### nat.mul -/
def s_nmul : FSpec
 | [.ws a, .ws b] => some (some (Wd a ∧ Wd b ∧ a.length ≤ 1000000000 ∧ b.length ≤ 1000000000), .ret (.ws (limbs (wv a * wv b).toNat)))
 | _ => none
structure MulS where
 i : Nat
 k : Nat
 out : List Int
 c : Int
structure MulO (a b : List Int) (s : MulS) : Prop where
 hi : s.i ≤ a.length
 len : s.out.length = a.length + b.length
 wd : Wd s.out
 sum : wv s.out = wv (a.take s.i) * wv b
 rest : ∀ j, s.i + b.length ≤ j → s.out.getD j 0 = 0
structure MulN (a b : List Int) (s : MulS) : Prop where
 hi : s.i < a.length
 hk : s.k ≤ b.length
 len : s.out.length = a.length + b.length
 wd : Wd s.out
 c0 : 0 ≤ s.c ∧ s.c < 4294967296
 sum : wv s.out + 4294967296 ^ (s.i + s.k) * s.c = wv (a.take s.i) * wv b + 4294967296 ^ s.i * (a.getD s.i 0 * wv (b.take s.k))
 rest : ∀ j, s.i + b.length ≤ j → s.out.getD j 0 = 0
def a_nmul (a b : List Int) : Nat → MS → Option LoopAnn
 | 3, _ => some (.inv MulS (MulO a b) (fun s => ⟨68, [(1, .ws b), (5, .bs 0 0 (a.length + b.length)), (18, .ws a), (19, .int .i64 a.length), (20, .int .i64 s.i)], [⟨false, .arr .u32 s.out⟩], 0⟩) (fun s => a.length - s.i))
 | 7, s0 => some (.inv MulS (fun s => MulN a b s ∧ .int .i64 (s.i : Int) = look 20 s0.tm) (fun s => ⟨68, [(1, .ws b), (5, .bs 0 0 (a.length + b.length)), (6, .int .i64 s.i), (7, .int .u32 (a.getD s.i 0)), (8, .int .u64 s.c), (18, .ws a), (19, .int .i64 a.length), (20, .int .i64 s.i), (25, .ws b), (26, .int .i64 b.length), (27, .int .i64 s.k)], [⟨false, .arr .u32 s.out⟩], 0⟩) (fun s => b.length - s.k))
 | _, _ => none
theorem vc_nmul (a b : List Int) : (((0 : Int) ≤ IntKind.wrap IntKind.i64 ((↑(List.length a) : Int) + (↑(List.length b) : Int)) ∧ IntKind.wrap IntKind.i64 ((↑(List.length a) : Int) + (↑(List.length b) : Int)) = IntKind.wrap IntKind.i64 ((↑(List.length a) : Int) + (↑(List.length b) : Int)) ∧ (↑(4 : Nat) : Int) * IntKind.wrap IntKind.i64 ((↑(List.length a) : Int) + (↑(List.length b) : Int)) ≤ 140737488355328) ∧ (∃ i, MulO a b i ∧ (b = b ∧ ((0 : Nat) = 0 ∧ Int.toNat (IntKind.wrap IntKind.i64 ((↑(List.length a) : Int) + (↑(List.length b) : Int))) = List.length a + List.length b) ∧ a = a ∧ (↑(List.length a) : Int) = (↑(List.length a) : Int) ∧ (0 : Int) = (↑(MulS.i i) : Int) ∧ True) ∧ List.replicate (Int.toNat (IntKind.wrap IntKind.i64 ((↑(List.length a) : Int) + (↑(List.length b) : Int)))) (0 : Int) = MulS.out i ∧ True) ∧ ∀ (i : MulS), MulO a b i → bif decide ((↑(MulS.i i) : Int) < (↑(List.length a) : Int)) then ((0 : Int) ≤ (↑(MulS.i i) : Int) ∧ (↑(MulS.i i) : Int) < (↑(List.length a) : Int)) ∧ (∃ i_1, (MulN a b i_1 ∧ MV.int IntKind.i64 (↑(MulS.i i_1) : Int) = MV.int IntKind.i64 (↑(MulS.i i) : Int)) ∧ (b = b ∧ ((0 : Nat) = 0 ∧ List.length a + List.length b = List.length a + List.length b) ∧ (↑(MulS.i i) : Int) = (↑(MulS.i i_1) : Int) ∧ List.getD a (Int.toNat (↑(MulS.i i) : Int)) (0 : Int) = List.getD a (MulS.i i_1) (0 : Int) ∧ (0 : Int) = MulS.c i_1 ∧ a = a ∧ (↑(List.length a) : Int) = (↑(List.length a) : Int) ∧ (↑(MulS.i i) : Int) = (↑(MulS.i i_1) : Int) ∧ b = b ∧ (↑(List.length b) : Int) = (↑(List.length b) : Int) ∧ (0 : Int) = (↑(MulS.k i_1) : Int) ∧ True) ∧ MulS.out i = MulS.out i_1 ∧ True) ∧ ∀ (i_1 : MulS), MulN a b i_1 ∧ MV.int IntKind.i64 (↑(MulS.i i_1) : Int) = MV.int IntKind.i64 (↑(MulS.i i) : Int) → bif decide ((↑(MulS.k i_1) : Int) < (↑(List.length b) : Int)) then ((0 : Int) ≤ (↑(MulS.k i_1) : Int) ∧ (↑(MulS.k i_1) : Int) < (↑(List.length b) : Int)) ∧ ((0 : Int) ≤ IntKind.wrap IntKind.i64 ((↑(MulS.i i_1) : Int) + (↑(MulS.k i_1) : Int)) ∧ IntKind.wrap IntKind.i64 ((↑(MulS.i i_1) : Int) + (↑(MulS.k i_1) : Int)) < (↑(List.length a + List.length b) : Int)) ∧ (0 : Nat) + Int.toNat (IntKind.wrap IntKind.i64 ((↑(MulS.i i_1) : Int) + (↑(MulS.k i_1) : Int))) < List.length (MulS.out i_1) ∧ (0 : Int) ≤ 32 ∧ ((0 : Int) ≤ IntKind.wrap IntKind.i64 ((↑(MulS.i i_1) : Int) + (↑(MulS.k i_1) : Int)) ∧ IntKind.wrap IntKind.i64 ((↑(MulS.i i_1) : Int) + (↑(MulS.k i_1) : Int)) < (↑(List.length a + List.length b) : Int)) ∧ (0 : Nat) + Int.toNat (IntKind.wrap IntKind.i64 ((↑(MulS.i i_1) : Int) + (↑(MulS.k i_1) : Int))) < List.length (MulS.out i_1) ∧ ∃ j, (MulN a b j ∧ MV.int IntKind.i64 (↑(MulS.i j) : Int) = MV.int IntKind.i64 (↑(MulS.i i) : Int)) ∧ ((b = b ∧ ((0 : Nat) = 0 ∧ List.length a + List.length b = List.length a + List.length b) ∧ (↑(MulS.i i_1) : Int) = (↑(MulS.i j) : Int) ∧ List.getD a (MulS.i i_1) (0 : Int) = List.getD a (MulS.i j) (0 : Int) ∧ Int.fdiv (IntKind.wrap IntKind.u64 (IntKind.wrap IntKind.u64 (IntKind.wrap IntKind.u64 (IntKind.wrap IntKind.u64 (List.getD a (MulS.i i_1) (0 : Int)) * IntKind.wrap IntKind.u64 (List.getD b (Int.toNat (↑(MulS.k i_1) : Int)) (0 : Int))) + IntKind.wrap IntKind.u64 (List.getD (MulS.out i_1) ((0 : Nat) + Int.toNat (IntKind.wrap IntKind.i64 ((↑(MulS.i i_1) : Int) + (↑(MulS.k i_1) : Int)))) (0 : Int))) + MulS.c i_1)) ((2 : Int) ^ min (Int.toNat (32 : Int)) (IntKind.bits IntKind.u64)) = MulS.c j ∧ a = a ∧ (↑(List.length a) : Int) = (↑(List.length a) : Int) ∧ (↑(MulS.i i_1) : Int) = (↑(MulS.i j) : Int) ∧ b = b ∧ (↑(List.length b) : Int) = (↑(List.length b) : Int) ∧ IntKind.wrap IntKind.i64 ((↑(MulS.k i_1) : Int) + 1) = (↑(MulS.k j) : Int) ∧ True) ∧ List.set (MulS.out i_1) ((0 : Nat) + Int.toNat (IntKind.wrap IntKind.i64 ((↑(MulS.i i_1) : Int) + (↑(MulS.k i_1) : Int)))) (IntKind.wrap IntKind.u32 (IntKind.wrap IntKind.u64 (IntKind.wrap IntKind.u64 (IntKind.wrap IntKind.u64 (IntKind.wrap IntKind.u64 (List.getD a (MulS.i i_1) (0 : Int)) * IntKind.wrap IntKind.u64 (List.getD b (Int.toNat (↑(MulS.k i_1) : Int)) (0 : Int))) + IntKind.wrap IntKind.u64 (List.getD (MulS.out i_1) ((0 : Nat) + Int.toNat (IntKind.wrap IntKind.i64 ((↑(MulS.i i_1) : Int) + (↑(MulS.k i_1) : Int)))) (0 : Int))) + MulS.c i_1))) = MulS.out j ∧ True) ∧ List.length b - MulS.k j < List.length b - MulS.k i_1 else ((0 : Int) ≤ IntKind.wrap IntKind.i64 ((↑(MulS.i i_1) : Int) + (↑(List.length b) : Int)) ∧ IntKind.wrap IntKind.i64 ((↑(MulS.i i_1) : Int) + (↑(List.length b) : Int)) < (↑(List.length a + List.length b) : Int)) ∧ (0 : Nat) + Int.toNat (IntKind.wrap IntKind.i64 ((↑(MulS.i i_1) : Int) + (↑(List.length b) : Int))) < List.length (MulS.out i_1) ∧ ∃ j, MulO a b j ∧ ((b = b ∧ ((0 : Nat) = 0 ∧ List.length a + List.length b = List.length a + List.length b) ∧ a = a ∧ (↑(List.length a) : Int) = (↑(List.length a) : Int) ∧ IntKind.wrap IntKind.i64 ((↑(MulS.i i_1) : Int) + 1) = (↑(MulS.i j) : Int) ∧ True) ∧ List.set (MulS.out i_1) ((0 : Nat) + Int.toNat (IntKind.wrap IntKind.i64 ((↑(MulS.i i_1) : Int) + (↑(List.length b) : Int)))) (IntKind.wrap IntKind.u32 (MulS.c i_1)) = MulS.out j ∧ True) ∧ List.length a - MulS.i j < List.length a - MulS.i i else ((0 : Nat) + (List.length a + List.length b) ≤ List.length (MulS.out i) ∧ (∀ (x : Int), x ∈ List.take (List.length a + List.length b) (List.drop (0 : Nat) (MulS.out i)) → (0 : Int) ≤ x ∧ x < 4294967296) ∧ List.length (List.take (List.length a + List.length b) (List.drop (0 : Nat) (MulS.out i))) ≤ 1099511627776) ∧ limbs (Int.toNat (wv (List.take (List.length a + List.length b) (List.drop (0 : Nat) (MulS.out i))))) = limbs (Int.toNat (wv a * wv b))) = evFn (env [c_trim] (a_nmul a b)) Tryz.f116 [.ws a, .ws b] (MRes.sat (.ret (.ws (limbs (wv a * wv b).toNat)))) := by kernel_rfl
theorem wv_set (l : List Int) (i : Nat) (v : Int) (h : i < l.length) : wv (l.set i v) = wv l + 4294967296 ^ i * (v - l.getD i 0) := by
 have h1 := wv_split (l.set i v) i (by simpa using h)
 have h2 := wv_split l i h
 rw [drop_set, List.take_set_of_le (Nat.le_refl _), show (l.set i v).getD i 0 = v by simp [h]] at h1
 rw [h1, h2]
 generalize (4294967296 : Int) ^ i = P
 generalize wv (l.drop (i + 1)) = t
 rw [Int.mul_add, Int.mul_add, Int.mul_sub]
 omega
theorem getD_set_ne {l : List Int} {i j : Nat} (v : Int) (h : i ≠ j) : (l.set i v).getD j 0 = l.getD j 0 := by
 simp [List.getD_eq_getElem?_getD, h]
theorem MulN.step {a b : List Int} {s : MulS} (h : MulN a b s) (ha : Wd a) (hb : Wd b) (hk : s.k < b.length) (t : Int) (ht : t = a.getD s.i 0 * b.getD s.k 0 + s.out.getD (s.i + s.k) 0 + s.c) :
  (0 ≤ a.getD s.i 0 * b.getD s.k 0 ∧ a.getD s.i 0 * b.getD s.k 0 ≤ 18446744065119617025) ∧ 0 ≤ t ∧ t < 18446744073709551616 ∧ MulN a b ⟨s.i, s.k + 1, s.out.set (s.i + s.k) (t % 4294967296), t / 4294967296⟩ := by
 have h1 := h.wd.getD (s.i + s.k)
 have h2 := ha.getD s.i
 have h3 := hb.getD s.k
 have h4 := h.c0
 have hi := h.hi
 have hp0 : 0 ≤ a.getD s.i 0 * b.getD s.k 0 := Int.mul_nonneg h2.1 h3.1
 have hp1 : a.getD s.i 0 * b.getD s.k 0 ≤ 4294967295 * 4294967295 := Int.mul_le_mul (by omega) (by omega) h3.1 (by omega)
 have hl : s.i + s.k < s.out.length := by rw [h.len]; omega
 refine ⟨⟨hp0, by omega⟩, by omega, by omega, hi, by show s.k + 1 ≤ b.length; omega, by simp [h.len], h.wd.set _ (by omega), by show 0 ≤ t / 4294967296 ∧ t / 4294967296 < 4294967296; omega, ?_, fun j hj => ?_⟩
 ·show wv (s.out.set (s.i + s.k) (t % 4294967296)) + 4294967296 ^ (s.i + (s.k + 1)) * (t / 4294967296) = wv (a.take s.i) * wv b + 4294967296 ^ s.i * (a.getD s.i 0 * wv (b.take (s.k + 1)))
  rw [wv_set _ _ _ hl, wv_take_succ, show s.i + (s.k + 1) = s.i + s.k + 1 by omega, Int.pow_succ]
  have h5 := carry_step (4294967296 ^ (s.i + s.k)) t
  have h6 := h.sum
  have h7 : (4294967296 : Int) ^ s.i * (a.getD s.i 0 * (wv (b.take s.k) + 4294967296 ^ s.k * b.getD s.k 0)) = 4294967296 ^ s.i * (a.getD s.i 0 * wv (b.take s.k)) + 4294967296 ^ (s.i + s.k) * (a.getD s.i 0 * b.getD s.k 0) := by
   rw [Int.pow_add]; grind
  rw [h7, Int.mul_sub]
  have h8 : (4294967296 : Int) ^ (s.i + s.k) * t = 4294967296 ^ (s.i + s.k) * (a.getD s.i 0 * b.getD s.k 0) + 4294967296 ^ (s.i + s.k) * s.out.getD (s.i + s.k) 0 + 4294967296 ^ (s.i + s.k) * s.c := by
   rw [ht, Int.mul_add, Int.mul_add]
  omega
 ·show (s.out.set (s.i + s.k) (t % 4294967296)).getD j 0 = 0
  have hj : s.i + b.length ≤ j := hj
  rw [getD_set_ne _ (by omega)]
  exact h.rest j hj
theorem MulN.done {a b : List Int} {s : MulS} (h : MulN a b s) (hk : ¬ s.k < b.length) : MulO a b ⟨s.i + 1, 0, s.out.set (s.i + b.length) s.c, 0⟩ := by
 have e : s.k = b.length := by have := h.hk; omega
 have hi := h.hi
 have hl : s.i + b.length < s.out.length := by rw [h.len]; omega
 refine ⟨by show s.i + 1 ≤ a.length; omega, by simp [h.len], h.wd.set _ h.c0, ?_, fun j hj => ?_⟩
 ·show wv (s.out.set (s.i + b.length) s.c) = wv (a.take (s.i + 1)) * wv b
  rw [wv_set _ _ _ hl, h.rest _ (Nat.le_refl _), wv_take_succ]
  have h6 := h.sum
  rw [e, List.take_length] at h6
  have h7 : (wv (a.take s.i) + 4294967296 ^ s.i * a.getD s.i 0) * wv b = wv (a.take s.i) * wv b + 4294967296 ^ s.i * (a.getD s.i 0 * wv b) := by grind
  rw [h7, Int.sub_zero]
  omega
 ·show (s.out.set (s.i + b.length) s.c).getD j 0 = 0
  have hj : s.i + 1 + b.length ≤ j := hj
  rw [getD_set_ne _ (by omega)]
  exact h.rest j (by omega)
theorem mulw {x y o c : Int} (hx : 0 ≤ x ∧ x < 4294967296) (hy : 0 ≤ y ∧ y < 4294967296) (_ho : 0 ≤ o ∧ o < 4294967296) (_hp : 0 ≤ x * y ∧ x * y ≤ 18446744065119617025) (h0 : 0 ≤ x * y + o + c) (h1 : x * y + o + c < 18446744073709551616) :
  IntKind.u64.wrap (IntKind.u64.wrap (IntKind.u64.wrap (IntKind.u64.wrap x * IntKind.u64.wrap y) + IntKind.u64.wrap o) + c) = x * y + o + c := by
 simp only [u64w]
 have e1 : x % 18446744073709551616 = x := Int.emod_eq_of_lt hx.1 (by omega)
 have e2 : y % 18446744073709551616 = y := Int.emod_eq_of_lt hy.1 (by omega)
 rw [e1, e2]
 generalize x * y = q at *
 omega
theorem p_nmul : Good Tryz.f116 s_nmul := by
 intro ms p r h hp
 unfold s_nmul at h
 split at h
 ·rename_i a b
  simp only [Option.some.injEq, Prod.mk.injEq] at h
  obtain ⟨rfl, rfl⟩ := h
  obtain ⟨ha, hb, la, lb⟩ : Wd a ∧ Wd b ∧ a.length ≤ 1000000000 ∧ b.length ≤ 1000000000 := hp
  refine ⟨env [c_trim] (a_nmul a b), ?_⟩
  rw [← vc_nmul a b]
  have ew : IntKind.i64.wrap ((a.length : Int) + b.length) = ((a.length + b.length : Nat) : Int) := by rw [i64w (by omega) (by omega)]; omega
  simp only [Bool.cond_decide, ew, Nat.zero_add, Int.toNat_natCast, List.drop_zero, p32]
  refine ⟨by and_intros <;> first | exact True.intro | omega, ⟨⟨0, 0, List.replicate (a.length + b.length) 0, 0⟩, ⟨by show 0 ≤ _; omega, by simp, Wd.replicate _, by show wv (List.replicate _ 0) = _; rw [wv_replicate]; simp [wv], fun j _ => ?_⟩, by and_intros <;> first | exact True.intro | rfl⟩, fun s hs => ?_⟩
  ·show (List.replicate _ (0 : Int)).getD j 0 = 0
   simp [List.getElem?_replicate]; split <;> rfl
  ·split
   ·rename_i hlt
    have hi : s.i < a.length := by omega
    refine ⟨by omega, ⟨⟨s.i, 0, s.out, 0⟩, ⟨⟨hi, by show 0 ≤ _; omega, hs.len, hs.wd, ⟨Int.le_refl _, by show (0 : Int) < 4294967296; omega⟩, ?_, hs.rest⟩, rfl⟩, by and_intros <;> first | exact True.intro | rfl⟩, fun t ⟨ht, hti⟩ => ?_⟩
    ·show wv s.out + 4294967296 ^ (s.i + 0) * 0 = wv (a.take s.i) * wv b + 4294967296 ^ s.i * (a.getD s.i 0 * wv (b.take 0))
     rw [hs.sum]; simp [wv]
    ·have hti : (t.i : Int) = s.i := by simpa using hti
     have hti : t.i = s.i := by omega
     have hk := ht.hk
     have hl := ht.len
     have ek : IntKind.i64.wrap ((t.i : Int) + t.k) = ((t.i + t.k : Nat) : Int) := by rw [i64w (by omega) (by omega)]; omega
     have eb : IntKind.i64.wrap ((t.i : Int) + b.length) = ((t.i + b.length : Nat) : Int) := by rw [i64w (by omega) (by omega)]; omega
     have e1 : IntKind.i64.wrap ((t.k : Int) + 1) = ((t.k + 1 : Nat) : Int) := by rw [i64w (by omega) (by omega)]; omega
     have e2 : IntKind.i64.wrap ((t.i : Int) + 1) = ((t.i + 1 : Nat) : Int) := by rw [i64w (by omega) (by omega)]; omega
     simp only [ek, eb, e1, e2, Int.toNat_natCast]
     split
     ·rename_i hkl
      obtain ⟨hp, h0, h1, hst⟩ := ht.step ha hb (by omega) _ rfl
      rw [mulw (ha.getD _) (hb.getD _) (ht.wd.getD _) hp h0 h1]
      rw [Int.fdiv_eq_ediv_of_nonneg _ (by omega), u32w]
      refine ⟨by omega, by omega, by omega, by omega, by omega, by omega, _, ⟨hst, by rw [hti]⟩, by and_intros <;> first | exact True.intro | rfl, ?_⟩
      show b.length - (t.k + 1) < b.length - t.k
      omega
     ·rename_i hkl
      have hc := ht.c0
      have e3 : IntKind.u32.wrap t.c = t.c := by rw [u32w]; omega
      rw [e3]
      refine ⟨by omega, by omega, _, ht.done (by omega), by and_intros <;> first | exact True.intro | rfl, ?_⟩
      show a.length - (t.i + 1) < a.length - s.i
      omega
   ·rename_i hlt
    have e : s.i = a.length := by have := hs.hi; omega
    have hsum := hs.sum
    have hl := hs.len
    have e2 : s.out.take (a.length + b.length) = s.out := List.take_of_length_le (by omega)
    rw [e, List.take_length] at hsum
    rw [e2, hsum]
    exact ⟨⟨by omega, hs.wd, by omega⟩, rfl⟩
 ·simp at h
def c_nmul : Ctr Tryz.prog := ⟨116, s_nmul, fun args w => Tryz.call116 args w, fn_ok mix Tryz.func116 s_nmul p_nmul⟩
end Go.Proofs.YtnfmjlhkknndhaaGreat
/-
 Contracts of functions: division by a word, shifts of sizes.
-/
namespace Go.Proofs.YtnfmjlhkknndhaaGreat
open Go Go.RowKit
theorem or_add {A y k : Nat} (h : A % 2 ^ k = 0) (hy : y < 2 ^ k) : A ||| y = A + y := by
 have e : A = (A / 2 ^ k) <<< k := by
  rw [Nat.shiftLeft_eq]
  have := Nat.div_add_mod A (2 ^ k)
  rw [Nat.mul_comm] at this; omega
 have := Nat.shiftLeft_add_eq_or_of_lt hy (A / 2 ^ k)
 rw [← e] at this
 exact this.symm
theorem or64 {A y : Int} (k : Nat) (hA : 0 ≤ A) (hA2 : A < 18446744073709551616) (hm : A.toNat % 2 ^ k = 0) (hy : 0 ≤ y) (hy2 : y.toNat < 2 ^ k) (hk : A + y < 18446744073709551616) :
  IntKind.u64.wrap (↑(BitVec.ofInt (IntKind.bits IntKind.u64) A ||| BitVec.ofInt (IntKind.bits IntKind.u64) y).toNat) = A + y := by
 rw [u64w, BitVec.toNat_or]
 have e1 : (BitVec.ofInt (IntKind.bits IntKind.u64) A).toNat = A.toNat := by
  rw [BitVec.toNat_ofInt]; show (A % 18446744073709551616).toNat = _; omega
 have e2 : (BitVec.ofInt (IntKind.bits IntKind.u64) y).toNat = y.toNat := by
  rw [BitVec.toNat_ofInt]; show (y % 18446744073709551616).toNat = _; omega
 rw [e1, e2, or_add hm hy2]
 omega
theorem or32 {A y : Int} (k : Nat) (hA : 0 ≤ A) (hA2 : A < 4294967296) (hm : A.toNat % 2 ^ k = 0) (hy : 0 ≤ y) (hy2 : y.toNat < 2 ^ k) (hk : A + y < 4294967296) :
  IntKind.u32.wrap (↑(BitVec.ofInt (IntKind.bits IntKind.u32) y ||| BitVec.ofInt (IntKind.bits IntKind.u32) A).toNat) = A + y := by
 rw [u32w, BitVec.toNat_or]
 have e1 : (BitVec.ofInt (IntKind.bits IntKind.u32) A).toNat = A.toNat := by
  rw [BitVec.toNat_ofInt]; show (A % 4294967296).toNat = _; omega
 have e2 : (BitVec.ofInt (IntKind.bits IntKind.u32) y).toNat = y.toNat := by
  rw [BitVec.toNat_ofInt]; show (y % 4294967296).toNat = _; omega
 rw [e1, e2, Nat.or_comm, or_add hm hy2]
 omega
/-! ### math/bits.Div32 -/
def s_div32 : FSpec
 | [.int .u32 h, .int .u32 l, .int .u32 y] => some (some (0 ≤ h ∧ h < y ∧ y < 4294967296 ∧ 0 ≤ l ∧ l < 4294967296), .ret (.tup [.int .u32 ((h * 4294967296 + l) / y), .int .u32 ((h * 4294967296 + l) % y)]))
 | _ => none
theorem vc_div32 (h l y : Int) : (bif y != 0 then bif decide (y ≤ h) then False else (0 : Int) ≤ 32 ∧ (IntKind.wrap IntKind.u64 y = 0 → False) ∧ (IntKind.wrap IntKind.u64 y = 0 → False) ∧ IntKind.wrap IntKind.u32 (IntKind.wrap IntKind.u64 (Int.tdiv (IntKind.wrap IntKind.u64 (↑(BitVec.toNat (BitVec.ofInt (IntKind.bits IntKind.u64) (IntKind.wrap IntKind.u64 (IntKind.wrap IntKind.u64 h * 2 ^ min (Int.toNat (32 : Int)) (IntKind.bits IntKind.u64))) ||| BitVec.ofInt (IntKind.bits IntKind.u64) (IntKind.wrap IntKind.u64 l))) : Int)) (IntKind.wrap IntKind.u64 y))) = (h * 4294967296 + l) / y ∧ IntKind.wrap IntKind.u32 (Int.tmod (IntKind.wrap IntKind.u64 (↑(BitVec.toNat (BitVec.ofInt (IntKind.bits IntKind.u64) (IntKind.wrap IntKind.u64 (IntKind.wrap IntKind.u64 h * 2 ^ min (Int.toNat (32 : Int)) (IntKind.bits IntKind.u64))) ||| BitVec.ofInt (IntKind.bits IntKind.u64) (IntKind.wrap IntKind.u64 l))) : Int)) (IntKind.wrap IntKind.u64 y)) = (h * 4294967296 + l) % y ∧ True else (0 : Int) ≤ 32 ∧ (IntKind.wrap IntKind.u64 y = 0 → False) ∧ (IntKind.wrap IntKind.u64 y = 0 → False) ∧ IntKind.wrap IntKind.u32 (IntKind.wrap IntKind.u64 (Int.tdiv (IntKind.wrap IntKind.u64 (↑(BitVec.toNat (BitVec.ofInt (IntKind.bits IntKind.u64) (IntKind.wrap IntKind.u64 (IntKind.wrap IntKind.u64 h * 2 ^ min (Int.toNat (32 : Int)) (IntKind.bits IntKind.u64))) ||| BitVec.ofInt (IntKind.bits IntKind.u64) (IntKind.wrap IntKind.u64 l))) : Int)) (IntKind.wrap IntKind.u64 y))) = (h * 4294967296 + l) / y ∧ IntKind.wrap IntKind.u32 (Int.tmod (IntKind.wrap IntKind.u64 (↑(BitVec.toNat (BitVec.ofInt (IntKind.bits IntKind.u64) (IntKind.wrap IntKind.u64 (IntKind.wrap IntKind.u64 h * 2 ^ min (Int.toNat (32 : Int)) (IntKind.bits IntKind.u64))) ||| BitVec.ofInt (IntKind.bits IntKind.u64) (IntKind.wrap IntKind.u64 l))) : Int)) (IntKind.wrap IntKind.u64 y)) = (h * 4294967296 + l) % y ∧ True) = evFn (env [] noAnn) Tryz.f137 [.int .u32 h, .int .u32 l, .int .u32 y] (MRes.sat (.ret (.tup [.int .u32 ((h * 4294967296 + l) / y), .int .u32 ((h * 4294967296 + l) % y)]))) := by kernel_rfl
theorem divq {h l y : Int} (h0 : 0 ≤ h) (h1 : h < y) (l0 : 0 ≤ l) (l1 : l < 4294967296) : 0 ≤ (h * 4294967296 + l) / y ∧ (h * 4294967296 + l) / y < 4294967296 := by
 refine ⟨Int.ediv_nonneg (by omega) (by omega), Int.ediv_lt_of_lt_mul (by omega) ?_⟩
 have : (h + 1) * 4294967296 ≤ y * 4294967296 := Int.mul_le_mul_of_nonneg_right (by omega) (by omega)
 rw [Int.mul_comm 4294967296 y]
 omega
theorem p_div32 : Good Tryz.f137 s_div32 := by
 intro ms p r hh hp
 unfold s_div32 at hh
 split at hh
 ·rename_i h l y
  simp only [Option.some.injEq, Prod.mk.injEq] at hh
  obtain ⟨rfl, rfl⟩ := hh
  obtain ⟨h0, h1, h2, l0, l1⟩ : 0 ≤ h ∧ h < y ∧ y < 4294967296 ∧ 0 ≤ l ∧ l < 4294967296 := hp
  refine ⟨env [] noAnn, ?_⟩
  rw [← vc_div32 h l y, p32]
  have eh : IntKind.u64.wrap h = h := by rw [u64w]; omega
  have el : IntKind.u64.wrap l = l := by rw [u64w]; omega
  have ey : IntKind.u64.wrap y = y := by rw [u64w]; omega
  have em : IntKind.u64.wrap (h * 4294967296) = h * 4294967296 := by rw [u64w]; omega
  have eo : IntKind.u64.wrap (↑(BitVec.ofInt (IntKind.bits IntKind.u64) (h * 4294967296) ||| BitVec.ofInt (IntKind.bits IntKind.u64) l).toNat) = h * 4294967296 + l :=
   or64 32 (by omega) (by omega) (by omega) l0 (by omega) (by omega)
  have hd := divq h0 h1 l0 l1
  have hm := Int.emod_nonneg (h * 4294967296 + l) (show y ≠ 0 by omega)
  have hm2 := Int.emod_lt_of_pos (h * 4294967296 + l) (show 0 < y by omega)
  have hy : (y != 0) = true := by simp; omega
  rw [hy, cond_true, Bool.cond_decide, if_neg (by omega), eh, el, ey, em, eo, Int.tdiv_eq_ediv_of_nonneg (by omega), Int.tmod_eq_emod_of_nonneg (by omega), u64w, u32w, u32w]
  refine ⟨by omega, fun e => by omega, fun e => by omega, ?_, ?_, True.intro⟩
  ·generalize (h * 4294967296 + l) / y = q at *; omega
  ·generalize (h * 4294967296 + l) % y = q at *; omega
 ·simp at hh
def c_div32 : Ctr Tryz.prog := ⟨137, s_div32, fun args w => Tryz.call137 args w, fn_ok mix Tryz.func137 s_div32 p_div32⟩
/-! ### nat.divWord -/
def s_ndivw : FSpec
 | [.ws a, .int .u32 d] => some (some (Wd a ∧ 0 < d ∧ d < 4294967296 ∧ a.length ≤ 1000000000), .ret (.tup [.ws (limbs (wv a / d).toNat), .int .u32 (wv a % d)]))
 | _ => none
structure DwS where
 k : Nat
 out : List Int
 c : Int
structure DwI (a : List Int) (d : Int) (s : DwS) : Prop where
 hk : s.k ≤ a.length
 len : s.out.length = a.length
 wd : Wd s.out
 c0 : 0 ≤ s.c ∧ s.c < d
 sum : wv (s.out.drop s.k) * d + s.c = wv (a.drop s.k)
def a_ndivw (a : List Int) (d : Int) : Nat → MS → Option LoopAnn
 | 4, _ => some (.inv DwS (DwI a d) (fun s => ⟨35, [(0, .ws a), (1, .int .u32 d), (6, .bs 0 0 a.length), (7, .int .u32 s.c), (8, .int .i64 ((s.k : Int) - 1))], [⟨false, .arr .u32 s.out⟩], 0⟩) (fun s => s.k))
 | _, _ => none
theorem vc_ndivw (a : List Int) (d : Int) : (((0 : Int) ≤ (↑(List.length a) : Int) ∧ (↑(List.length a) : Int) = (↑(List.length a) : Int) ∧ (↑(4 : Nat) : Int) * (↑(List.length a) : Int) ≤ 140737488355328) ∧ (∃ i, DwI a d i ∧ (a = a ∧ d = d ∧ ((0 : Nat) = 0 ∧ Int.toNat (↑(List.length a) : Int) = List.length a) ∧ (0 : Int) = DwS.c i ∧ IntKind.wrap IntKind.i64 ((↑(List.length a) : Int) - 1) = (↑(DwS.k i) : Int) - 1 ∧ True) ∧ List.replicate (Int.toNat (↑(List.length a) : Int)) (0 : Int) = DwS.out i ∧ True) ∧ ∀ (i : DwS), DwI a d i → bif decide ((↑(DwS.k i) : Int) - 1 ≥ 0) then ((0 : Int) ≤ (↑(DwS.k i) : Int) - 1 ∧ (↑(DwS.k i) : Int) - 1 < (↑(List.length a) : Int)) ∧ ((0 : Int) ≤ DwS.c i ∧ DwS.c i < d ∧ d < 4294967296 ∧ (0 : Int) ≤ List.getD a (Int.toNat ((↑(DwS.k i) : Int) - 1)) (0 : Int) ∧ List.getD a (Int.toNat ((↑(DwS.k i) : Int) - 1)) (0 : Int) < 4294967296) ∧ ((0 : Int) ≤ (↑(DwS.k i) : Int) - 1 ∧ (↑(DwS.k i) : Int) - 1 < (↑(List.length a) : Int)) ∧ (0 : Nat) + Int.toNat ((↑(DwS.k i) : Int) - 1) < List.length (DwS.out i) ∧ ∃ j, DwI a d j ∧ ((a = a ∧ d = d ∧ ((0 : Nat) = 0 ∧ List.length a = List.length a) ∧ (DwS.c i * 4294967296 + List.getD a (Int.toNat ((↑(DwS.k i) : Int) - 1)) (0 : Int)) % d = DwS.c j ∧ IntKind.wrap IntKind.i64 ((↑(DwS.k i) : Int) - 1 - 1) = (↑(DwS.k j) : Int) - 1 ∧ True) ∧ List.set (DwS.out i) ((0 : Nat) + Int.toNat ((↑(DwS.k i) : Int) - 1)) ((DwS.c i * 4294967296 + List.getD a (Int.toNat ((↑(DwS.k i) : Int) - 1)) (0 : Int)) / d) = DwS.out j ∧ True) ∧ DwS.k j < DwS.k i else ((0 : Nat) + List.length a ≤ List.length (DwS.out i) ∧ (∀ (x : Int), x ∈ List.take (List.length a) (List.drop (0 : Nat) (DwS.out i)) → (0 : Int) ≤ x ∧ x < 4294967296) ∧ List.length (List.take (List.length a) (List.drop (0 : Nat) (DwS.out i))) ≤ 1099511627776) ∧ limbs (Int.toNat (wv (List.take (List.length a) (List.drop (0 : Nat) (DwS.out i))))) = limbs (Int.toNat (wv a / d)) ∧ DwS.c i = wv a % d ∧ True) = evFn (env [c_div32, c_trim] (a_ndivw a d)) Tryz.f127 [.ws a, .int .u32 d] (MRes.sat (.ret (.tup [.ws (limbs (wv a / d).toNat), .int .u32 (wv a % d)]))) := by kernel_rfl
theorem drop_cons {l : List Int} {k : Nat} (h : k < l.length) : l.drop k = l.getD k 0 :: l.drop (k + 1) := by
 rw [show l.getD k 0 = l[k] by simp [h], ← List.drop_eq_getElem_cons h]
theorem DwI.step {a : List Int} {d : Int} {s : DwS} (h : DwI a d s) (ha : Wd a) (_hd : d < 4294967296) (hk : 0 < s.k) :
  DwI a d ⟨s.k - 1, s.out.set (s.k - 1) ((s.c * 4294967296 + a.getD (s.k - 1) 0) / d), (s.c * 4294967296 + a.getD (s.k - 1) 0) % d⟩ := by
 have h1 := ha.getD (s.k - 1)
 have h2 := h.c0
 have hq := divq h2.1 h2.2 h1.1 h1.2
 have hkk := h.hk
 have hl := h.len
 refine ⟨by show s.k - 1 ≤ a.length; omega, by simp [h.len], h.wd.set _ hq, ⟨Int.emod_nonneg _ (by omega), Int.emod_lt_of_pos _ (by omega)⟩, ?_⟩
 show wv ((s.out.set (s.k - 1) ((s.c * 4294967296 + a.getD (s.k - 1) 0) / d)).drop (s.k - 1)) * d + (s.c * 4294967296 + a.getD (s.k - 1) 0) % d = wv (a.drop (s.k - 1))
 rw [drop_cons (l := s.out.set _ _) (by simp; omega), drop_cons (l := a) (by omega), drop_set, show s.k - 1 + 1 = s.k by omega]
 rw [show (s.out.set (s.k - 1) ((s.c * 4294967296 + a.getD (s.k - 1) 0) / d)).getD (s.k - 1) 0 = (s.c * 4294967296 + a.getD (s.k - 1) 0) / d by simp [show s.k - 1 < s.out.length by omega]]
 simp only [wv]
 have h3 := h.sum
 have h4 := Int.mul_ediv_add_emod (s.c * 4294967296 + a.getD (s.k - 1) 0) d
 generalize wv (s.out.drop s.k) = t at *
 generalize wv (a.drop s.k) = u at *
 generalize (s.c * 4294967296 + a.getD (s.k - 1) 0) / d = q at *
 rw [Int.add_mul, Int.mul_assoc, Int.mul_comm q d]
 generalize t * d = td at *
 generalize d * q = dq at *
 omega
theorem p_ndivw : Good Tryz.f127 s_ndivw := by
 intro ms p r h hp
 unfold s_ndivw at h
 split at h
 ·rename_i a d
  simp only [Option.some.injEq, Prod.mk.injEq] at h
  obtain ⟨rfl, rfl⟩ := h
  obtain ⟨ha, hd0, hd, la⟩ : Wd a ∧ 0 < d ∧ d < 4294967296 ∧ a.length ≤ 1000000000 := hp
  refine ⟨env [c_div32, c_trim] (a_ndivw a d), ?_⟩
  rw [← vc_ndivw a d]
  have ew : IntKind.i64.wrap ((a.length : Int) - 1) = (a.length : Int) - 1 := i64w (by omega) (by omega)
  simp only [Bool.cond_decide, ew, Nat.zero_add, Int.toNat_natCast, List.drop_zero]
  refine ⟨by and_intros <;> first | exact True.intro | omega, ⟨⟨a.length, List.replicate a.length 0, 0⟩, ⟨Nat.le_refl _, by simp, Wd.replicate _, ⟨Int.le_refl _, hd0⟩, by simp [wv]⟩, by and_intros <;> first | exact True.intro | rfl⟩, fun s hs => ?_⟩
  have hk := hs.hk
  have hl := hs.len
  split
  ·rename_i hge
   have ek : ((s.k : Int) - 1).toNat = s.k - 1 := by omega
   have e1 : IntKind.i64.wrap ((s.k : Int) - 1 - 1) = ((s.k - 1 : Nat) : Int) - 1 := by rw [i64w (by omega) (by omega)]; omega
   have hc := hs.c0
   have hx := ha.getD (s.k - 1)
   rw [ek, e1]
   refine ⟨by omega, by and_intros <;> omega, by omega, by omega, _, hs.step ha hd (by omega), by and_intros <;> first | exact True.intro | rfl, ?_⟩
   show s.k - 1 < s.k
   omega
  ·rename_i hge
   have e : s.k = 0 := by omega
   have hsum := hs.sum
   have hc := hs.c0
   rw [e, List.drop_zero, List.drop_zero] at hsum
   have e2 : s.out.take a.length = s.out := List.take_of_length_le (by omega)
   have hq : wv a / d = wv s.out := by
    rw [← hsum, Int.add_comm, Int.add_mul_ediv_right _ _ (by omega), Int.ediv_eq_zero_of_lt hc.1 hc.2, Int.zero_add]
   have hr : wv a % d = s.c := by
    rw [← hsum, Int.add_comm, Int.add_mul_emod_self_right, Int.emod_eq_of_lt hc.1 hc.2]
   rw [e2, hq, hr]
   exact ⟨⟨by omega, hs.wd, by omega⟩, by and_intros <;> first | exact True.intro | rfl⟩
 ·simp at h
def c_ndivw : Ctr Tryz.prog := ⟨127, s_ndivw, fun args w => Tryz.call127 args w, fn_ok mix Tryz.func127 s_ndivw p_ndivw⟩
/-! ### nat.shr -/
def s_nshr : FSpec
 | [.ws a, .int .i64 n] => some (some (Wd a ∧ 0 ≤ n ∧ n < 32 ∧ a.length ≤ 1000000000), .ret (.ws (limbs (wv a / 2 ^ n.toNat).toNat)))
 | _ => none
structure ShrI (a : List Int) (n : Nat) (s : DwS) : Prop where
 hk : s.k ≤ a.length
 len : s.out.length = a.length
 wd : Wd s.out
 sum : wv (s.out.take s.k) = wv a / 2 ^ n % 4294967296 ^ s.k
def a_nshr (a : List Int) (n : Nat) : Nat → MS → Option LoopAnn
 | 3, _ => some (.inv DwS (ShrI a n) (fun s => ⟨45, [(0, .ws a), (1, .int .i64 n), (5, .bs 0 0 a.length), (12, .int .i64 a.length), (13, .int .i64 s.k)], [⟨false, .arr .u32 s.out⟩], 0⟩) (fun s => a.length - s.k))
 | _, _ => none
theorem vc_nshr (a : List Int) (n : Nat) : (((0 : Int) ≤ (↑(List.length a) : Int) ∧ (↑(List.length a) : Int) = (↑(List.length a) : Int) ∧ (↑(4 : Nat) : Int) * (↑(List.length a) : Int) ≤ 140737488355328) ∧ (∃ i, ShrI a n i ∧ (a = a ∧ (↑n : Int) = (↑n : Int) ∧ ((0 : Nat) = 0 ∧ Int.toNat (↑(List.length a) : Int) = List.length a) ∧ (↑(Int.toNat (↑(List.length a) : Int)) : Int) = (↑(List.length a) : Int) ∧ (0 : Int) = (↑(DwS.k i) : Int) ∧ True) ∧ List.replicate (Int.toNat (↑(List.length a) : Int)) (0 : Int) = DwS.out i ∧ True) ∧ ∀ (i : DwS), ShrI a n i → bif decide ((↑(DwS.k i) : Int) < (↑(List.length a) : Int)) then ((0 : Int) ≤ (↑(DwS.k i) : Int) ∧ (↑(DwS.k i) : Int) < (↑(List.length a) : Int)) ∧ bif decide (IntKind.wrap IntKind.i64 ((↑(DwS.k i) : Int) + 1) < (↑(List.length a) : Int)) then ((0 : Int) ≤ IntKind.wrap IntKind.i64 ((↑(DwS.k i) : Int) + 1) ∧ IntKind.wrap IntKind.i64 ((↑(DwS.k i) : Int) + 1) < (↑(List.length a) : Int)) ∧ (0 : Int) ≤ 32 ∧ (0 : Int) ≤ (↑n : Int) ∧ ((0 : Int) ≤ (↑(DwS.k i) : Int) ∧ (↑(DwS.k i) : Int) < (↑(List.length a) : Int)) ∧ (0 : Nat) + Int.toNat (↑(DwS.k i) : Int) < List.length (DwS.out i) ∧ ∃ j, ShrI a n j ∧ ((a = a ∧ (↑n : Int) = (↑n : Int) ∧ ((0 : Nat) = 0 ∧ List.length a = List.length a) ∧ (↑(List.length a) : Int) = (↑(List.length a) : Int) ∧ IntKind.wrap IntKind.i64 ((↑(DwS.k i) : Int) + 1) = (↑(DwS.k j) : Int) ∧ True) ∧ List.set (DwS.out i) ((0 : Nat) + Int.toNat (↑(DwS.k i) : Int)) (IntKind.wrap IntKind.u32 (Int.fdiv (IntKind.wrap IntKind.u64 (↑(BitVec.toNat (BitVec.ofInt (IntKind.bits IntKind.u64) (IntKind.wrap IntKind.u64 (List.getD a (Int.toNat (↑(DwS.k i) : Int)) (0 : Int))) ||| BitVec.ofInt (IntKind.bits IntKind.u64) (IntKind.wrap IntKind.u64 (IntKind.wrap IntKind.u64 (List.getD a (Int.toNat (IntKind.wrap IntKind.i64 ((↑(DwS.k i) : Int) + 1))) (0 : Int)) * 2 ^ min (Int.toNat (32 : Int)) (IntKind.bits IntKind.u64))))) : Int)) ((2 : Int) ^ min (Int.toNat (↑n : Int)) (IntKind.bits IntKind.u64)))) = DwS.out j ∧ True) ∧ List.length a - DwS.k j < List.length a - DwS.k i else (0 : Int) ≤ (↑n : Int) ∧ ((0 : Int) ≤ (↑(DwS.k i) : Int) ∧ (↑(DwS.k i) : Int) < (↑(List.length a) : Int)) ∧ (0 : Nat) + Int.toNat (↑(DwS.k i) : Int) < List.length (DwS.out i) ∧ ∃ j, ShrI a n j ∧ ((a = a ∧ (↑n : Int) = (↑n : Int) ∧ ((0 : Nat) = 0 ∧ List.length a = List.length a) ∧ (↑(List.length a) : Int) = (↑(List.length a) : Int) ∧ IntKind.wrap IntKind.i64 ((↑(DwS.k i) : Int) + 1) = (↑(DwS.k j) : Int) ∧ True) ∧ List.set (DwS.out i) ((0 : Nat) + Int.toNat (↑(DwS.k i) : Int)) (IntKind.wrap IntKind.u32 (Int.fdiv (IntKind.wrap IntKind.u64 (List.getD a (Int.toNat (↑(DwS.k i) : Int)) (0 : Int))) ((2 : Int) ^ min (Int.toNat (↑n : Int)) (IntKind.bits IntKind.u64)))) = DwS.out j ∧ True) ∧ List.length a - DwS.k j < List.length a - DwS.k i else ((0 : Nat) + List.length a ≤ List.length (DwS.out i) ∧ (∀ (x : Int), x ∈ List.take (List.length a) (List.drop (0 : Nat) (DwS.out i)) → (0 : Int) ≤ x ∧ x < 4294967296) ∧ List.length (List.take (List.length a) (List.drop (0 : Nat) (DwS.out i))) ≤ 1099511627776) ∧ limbs (Int.toNat (wv (List.take (List.length a) (List.drop (0 : Nat) (DwS.out i))))) = limbs (Int.toNat (wv a / 2 ^ n))) = evFn (env [c_trim] (a_nshr a n)) Tryz.f130 [.ws a, .int .i64 n] (MRes.sat (.ret (.ws (limbs (wv a / 2 ^ n).toNat)))) := by kernel_rfl
theorem emod_step {Y P : Int} (hY : 0 ≤ Y) (hP : 0 < P) : Y % (P * 4294967296) = Y % P + P * (Y / P % 4294967296) := by
 obtain ⟨y, rfl⟩ := Int.eq_ofNat_of_zero_le hY
 obtain ⟨q, rfl⟩ := Int.eq_ofNat_of_zero_le (Int.le_of_lt hP)
 have := Nat.mod_mul (x := y) (a := q) (b := 4294967296)
 have h2 : ((y % (q * 4294967296) : Nat) : Int) = ((y % q + q * (y / q % 4294967296) : Nat) : Int) := by rw [this]
 simpa using h2
theorem wv_div {a : List Int} (ha : Wd a) (k : Nat) : wv a / 4294967296 ^ k = wv (a.drop k) := by
 rcases Nat.lt_or_ge k a.length with h | h
 ·have h1 := wv_append (a.take k) (a.drop k)
  rw [List.take_append_drop, List.length_take, Nat.min_eq_left (by omega)] at h1
  have h2 := wv_lt (ha.take k)
  rw [List.length_take, Nat.min_eq_left (by omega)] at h2
  have h3 := wv_nonneg (ha.take k)
  rw [h1, Int.add_mul_ediv_left _ _ (by have := pow_pos32 k; omega), Int.ediv_eq_zero_of_lt h3 h2, Int.zero_add]
 ·rw [List.drop_eq_nil_of_le h]
  have h2 := wv_lt ha
  have h3 := pow_le32 h
  exact Int.ediv_eq_zero_of_lt (wv_nonneg ha) (by omega)
theorem getD_drop_wv {a : List Int} (k : Nat) : wv (a.drop k) = a.getD k 0 + 4294967296 * wv (a.drop (k + 1)) := by
 rcases Nat.lt_or_ge k a.length with h | h
 ·rw [drop_cons h]; rfl
 ·rw [List.drop_eq_nil_of_le h, List.drop_eq_nil_of_le (by omega)]
  simp [List.getElem?_eq_none h, wv]
theorem shr_digit {a : List Int} (ha : Wd a) (n k : Nat) (hn : n < 32) : wv a / 2 ^ n / 4294967296 ^ k % 4294967296 = (a.getD k 0 + 4294967296 * a.getD (k + 1) 0) / 2 ^ n % 4294967296 := by
 have hp : (0 : Int) < 2 ^ n := Int.pow_pos (by omega)
 have hW := pow_pos32 k
 rw [Int.ediv_ediv_of_nonneg (by omega), Int.mul_comm, ← Int.ediv_ediv_of_nonneg (by omega), wv_div ha, getD_drop_wv k, getD_drop_wv (k + 1)]
 have e : (4294967296 : Int) * 4294967296 = 2 ^ n * (4294967296 * 2 ^ (32 - n)) := by
  have : (2 : Int) ^ n * 2 ^ (32 - n) = 4294967296 := by rw [← Int.pow_add, show n + (32 - n) = 32 by omega]; rfl
  rw [← Int.mul_assoc, Int.mul_comm ((2 : Int) ^ n) 4294967296, Int.mul_assoc, this]
 have e2 : a.getD k 0 + 4294967296 * (a.getD (k + 1) 0 + 4294967296 * wv (a.drop (k + 1 + 1))) = (a.getD k 0 + 4294967296 * a.getD (k + 1) 0) + 2 ^ n * (4294967296 * (2 ^ (32 - n) * wv (a.drop (k + 1 + 1)))) := by
  rw [Int.mul_add, ← Int.mul_assoc 4294967296 4294967296, e]
  simp only [Int.mul_assoc, Int.add_assoc]
 rw [e2, Int.add_mul_ediv_left _ _ (by omega), Int.add_mul_emod_self_left]
theorem ShrI.step {a : List Int} {n : Nat} {s : DwS} (h : ShrI a n s) (ha : Wd a) (hn : n < 32) (hk : s.k < a.length) (x : Int) (hx : x = (a.getD s.k 0 + 4294967296 * a.getD (s.k + 1) 0) / 2 ^ n % 4294967296) :
  ShrI a n ⟨s.k + 1, s.out.set s.k x, s.c⟩ := by
 have hl := h.len
 have hxb : 0 ≤ x ∧ x < 4294967296 := by rw [hx]; exact ⟨Int.emod_nonneg _ (by omega), Int.emod_lt_of_pos _ (by omega)⟩
 refine ⟨by show s.k + 1 ≤ a.length; omega, by simp [h.len], h.wd.set _ hxb, ?_⟩
 show wv ((s.out.set s.k x).take (s.k + 1)) = wv a / 2 ^ n % 4294967296 ^ (s.k + 1)
 have hp : (0 : Int) < 2 ^ n := Int.pow_pos (by omega)
 rw [wv_take_set _ (by omega), h.sum, Int.pow_succ, emod_step (Int.ediv_nonneg (wv_nonneg ha) (by omega)) (pow_pos32 _), shr_digit ha n s.k hn, hx]
theorem pmin {n : Nat} (hn : n < 32) : ((2 : Int) ^ min n (IntKind.bits IntKind.u64)) = 2 ^ n := by
 have : min n (IntKind.bits IntKind.u64) = n := by show min n 64 = n; omega
 rw [this]
theorem p_nshr : Good Tryz.f130 s_nshr := by
 intro ms p r h hp
 unfold s_nshr at h
 split at h
 ·rename_i a n0
  simp only [Option.some.injEq, Prod.mk.injEq] at h
  obtain ⟨rfl, rfl⟩ := h
  obtain ⟨ha, hn0, hn, la⟩ : Wd a ∧ 0 ≤ n0 ∧ n0 < 32 ∧ a.length ≤ 1000000000 := hp
  obtain ⟨n, rfl⟩ := Int.eq_ofNat_of_zero_le hn0
  have hn : n < 32 := by omega
  refine ⟨env [c_trim] (a_nshr a n), ?_⟩
  rw [show ((n : Int)).toNat = n from rfl, ← vc_nshr a n]
  have hpp : (0 : Int) < 2 ^ n := Int.pow_pos (by omega)
  simp only [Bool.cond_decide, pmin hn, p32, Nat.zero_add, Int.toNat_natCast, List.drop_zero]
  refine ⟨by and_intros <;> first | exact True.intro | omega, ⟨⟨0, List.replicate a.length 0, 0⟩, ⟨by show 0 ≤ _; omega, by simp, Wd.replicate _, by simp [wv, Int.emod_one]⟩, by and_intros <;> first | exact True.intro | rfl⟩, fun s hs => ?_⟩
  have hk := hs.hk
  have hl := hs.len
  split
  ·rename_i hlt
   have e1 : IntKind.i64.wrap ((s.k : Int) + 1) = ((s.k + 1 : Nat) : Int) := by rw [i64w (by omega) (by omega)]; omega
   have h1 := ha.getD s.k
   have h2 := ha.getD (s.k + 1)
   rw [e1, Int.toNat_natCast]
   have ew : ∀ z : Int, 0 ≤ z ∧ z < 4294967296 → IntKind.u64.wrap z = z := fun z hz => by rw [u64w]; omega
   have em : IntKind.u64.wrap (a.getD (s.k + 1) 0 * 4294967296) = 4294967296 * a.getD (s.k + 1) 0 := by rw [u64w]; omega
   have eo : IntKind.u64.wrap (↑(BitVec.ofInt (IntKind.bits IntKind.u64) (a.getD s.k 0) ||| BitVec.ofInt (IntKind.bits IntKind.u64) (4294967296 * a.getD (s.k + 1) 0)).toNat) = 4294967296 * a.getD (s.k + 1) 0 + a.getD s.k 0 := by
    rw [BitVec.or_comm]
    exact or64 32 (by omega) (by omega) (by omega) h1.1 (by omega) (by omega)
   refine ⟨by omega, ?_⟩
   split
   ·rw [ew _ h1, ew _ h2, em, eo, Int.fdiv_eq_ediv_of_nonneg _ (by omega), u32w, Int.add_comm (4294967296 * _)]
    refine ⟨by omega, by omega, by omega, by omega, by omega, _, hs.step ha hn (by omega) _ rfl, by and_intros <;> first | exact True.intro | rfl, ?_⟩
    show a.length - (s.k + 1) < a.length - s.k
    omega
   ·rename_i hge
    rw [ew _ h1, Int.fdiv_eq_ediv_of_nonneg _ (by omega), u32w]
    refine ⟨by omega, by omega, by omega, _, hs.step ha hn (by omega) _ ?_, by and_intros <;> first | exact True.intro | rfl, ?_⟩
    ·have : a.getD (s.k + 1) 0 = 0 := by simp [List.getElem?_eq_none (show a.length ≤ s.k + 1 by omega)]
     rw [this, Int.mul_zero, Int.add_zero]
    ·show a.length - (s.k + 1) < a.length - s.k
     omega
  ·rename_i hlt
   have e : s.k = a.length := by omega
   have hsum := hs.sum
   have e2 : s.out.take a.length = s.out := List.take_of_length_le (by omega)
   have hq : wv a / 2 ^ n % 4294967296 ^ a.length = wv a / 2 ^ n := by
    refine Int.emod_eq_of_lt (Int.ediv_nonneg (wv_nonneg ha) (by omega)) (Int.lt_of_le_of_lt (Int.ediv_le_self _ (wv_nonneg ha)) (wv_lt ha))
   rw [e, e2, hq] at hsum
   rw [e2, hsum]
   exact ⟨⟨by omega, hs.wd, by omega⟩, rfl⟩
 ·simp at h
def c_nshr : Ctr Tryz.prog := ⟨130, s_nshr, fun args w => Tryz.call130 args w, fn_ok mix Tryz.func130 s_nshr p_nshr⟩
/-! ### nat.shl -/
def s_nshl : FSpec
 | [.ws a, .int .i64 n] => some (some (Wd a ∧ 0 ≤ n ∧ n ≤ 1000000000 ∧ a.length ≤ 1000000000), .ret (.ws (limbs (wv a * 2 ^ n.toNat).toNat)))
 | _ => none
structure ShlI (a : List Int) (n : Nat) (s : DwS) : Prop where
 hk : s.k ≤ a.length
 len : s.out.length = a.length + n / 32 + 1
 wd : Wd s.out
 sum : wv s.out = wv (a.take s.k) * 2 ^ n
 top : s.out.getD (s.k + n / 32) 0 < 2 ^ (n % 32)
 rest : ∀ j, s.k + n / 32 < j → s.out.getD j 0 = 0
def a_nshl (a : List Int) (n : Nat) : Nat → MS → Option LoopAnn
 | 3, _ => some (.inv DwS (ShlI a n) (fun s => ⟨52, [(1, .int .i64 n), (5, .bs 0 0 (a.length + n / 32 + 1)), (16, .ws a), (17, .int .i64 a.length), (18, .int .i64 s.k)], [⟨false, .arr .u32 s.out⟩], 0⟩) (fun s => a.length - s.k))
 | _, _ => none
theorem vc_nshl (a : List Int) (n : Nat) : (((32 : Int) = 0 → False) ∧ ((0 : Int) ≤ IntKind.wrap IntKind.i64 (IntKind.wrap IntKind.i64 ((↑(List.length a) : Int) + IntKind.wrap IntKind.i64 (Int.tdiv (↑n : Int) (32 : Int))) + 1) ∧ IntKind.wrap IntKind.i64 (IntKind.wrap IntKind.i64 ((↑(List.length a) : Int) + IntKind.wrap IntKind.i64 (Int.tdiv (↑n : Int) (32 : Int))) + 1) = IntKind.wrap IntKind.i64 (IntKind.wrap IntKind.i64 ((↑(List.length a) : Int) + IntKind.wrap IntKind.i64 (Int.tdiv (↑n : Int) (32 : Int))) + 1) ∧ (↑(4 : Nat) : Int) * IntKind.wrap IntKind.i64 (IntKind.wrap IntKind.i64 ((↑(List.length a) : Int) + IntKind.wrap IntKind.i64 (Int.tdiv (↑n : Int) (32 : Int))) + 1) ≤ 140737488355328) ∧ (∃ i, ShlI a n i ∧ ((↑n : Int) = (↑n : Int) ∧ ((0 : Nat) = 0 ∧ Int.toNat (IntKind.wrap IntKind.i64 (IntKind.wrap IntKind.i64 ((↑(List.length a) : Int) + IntKind.wrap IntKind.i64 (Int.tdiv (↑n : Int) (32 : Int))) + 1)) = List.length a + n / 32 + 1) ∧ a = a ∧ (↑(List.length a) : Int) = (↑(List.length a) : Int) ∧ (0 : Int) = (↑(DwS.k i) : Int) ∧ True) ∧ List.replicate (Int.toNat (IntKind.wrap IntKind.i64 (IntKind.wrap IntKind.i64 ((↑(List.length a) : Int) + IntKind.wrap IntKind.i64 (Int.tdiv (↑n : Int) (32 : Int))) + 1))) (0 : Int) = DwS.out i ∧ True) ∧ ∀ (i : DwS), ShlI a n i → bif decide ((↑(DwS.k i) : Int) < (↑(List.length a) : Int)) then ((0 : Int) ≤ (↑(DwS.k i) : Int) ∧ (↑(DwS.k i) : Int) < (↑(List.length a) : Int)) ∧ ((32 : Int) = 0 → False) ∧ (0 : Int) ≤ Int.tmod (↑n : Int) (32 : Int) ∧ ((32 : Int) = 0 → False) ∧ ((0 : Int) ≤ IntKind.wrap IntKind.i64 ((↑(DwS.k i) : Int) + IntKind.wrap IntKind.i64 (Int.tdiv (↑n : Int) (32 : Int))) ∧ IntKind.wrap IntKind.i64 ((↑(DwS.k i) : Int) + IntKind.wrap IntKind.i64 (Int.tdiv (↑n : Int) (32 : Int))) < (↑(List.length a + n / 32 + 1) : Int)) ∧ (0 : Nat) + Int.toNat (IntKind.wrap IntKind.i64 ((↑(DwS.k i) : Int) + IntKind.wrap IntKind.i64 (Int.tdiv (↑n : Int) (32 : Int)))) < List.length (DwS.out i) ∧ ((0 : Int) ≤ IntKind.wrap IntKind.i64 ((↑(DwS.k i) : Int) + IntKind.wrap IntKind.i64 (Int.tdiv (↑n : Int) (32 : Int))) ∧ IntKind.wrap IntKind.i64 ((↑(DwS.k i) : Int) + IntKind.wrap IntKind.i64 (Int.tdiv (↑n : Int) (32 : Int))) < (↑(List.length a + n / 32 + 1) : Int)) ∧ (0 : Nat) + Int.toNat (IntKind.wrap IntKind.i64 ((↑(DwS.k i) : Int) + IntKind.wrap IntKind.i64 (Int.tdiv (↑n : Int) (32 : Int)))) < List.length (DwS.out i) ∧ ((32 : Int) = 0 → False) ∧ (0 : Int) ≤ 32 ∧ ((0 : Int) ≤ IntKind.wrap IntKind.i64 (IntKind.wrap IntKind.i64 ((↑(DwS.k i) : Int) + IntKind.wrap IntKind.i64 (Int.tdiv (↑n : Int) (32 : Int))) + 1) ∧ IntKind.wrap IntKind.i64 (IntKind.wrap IntKind.i64 ((↑(DwS.k i) : Int) + IntKind.wrap IntKind.i64 (Int.tdiv (↑n : Int) (32 : Int))) + 1) < (↑(List.length a + n / 32 + 1) : Int)) ∧ (0 : Nat) + Int.toNat (IntKind.wrap IntKind.i64 (IntKind.wrap IntKind.i64 ((↑(DwS.k i) : Int) + IntKind.wrap IntKind.i64 (Int.tdiv (↑n : Int) (32 : Int))) + 1)) < List.length (List.set (DwS.out i) ((0 : Nat) + Int.toNat (IntKind.wrap IntKind.i64 ((↑(DwS.k i) : Int) + IntKind.wrap IntKind.i64 (Int.tdiv (↑n : Int) (32 : Int))))) (IntKind.wrap IntKind.u32 (↑(BitVec.toNat (BitVec.ofInt (IntKind.bits IntKind.u32) (List.getD (DwS.out i) ((0 : Nat) + Int.toNat (IntKind.wrap IntKind.i64 ((↑(DwS.k i) : Int) + IntKind.wrap IntKind.i64 (Int.tdiv (↑n : Int) (32 : Int))))) (0 : Int)) ||| BitVec.ofInt (IntKind.bits IntKind.u32) (IntKind.wrap IntKind.u32 (IntKind.wrap IntKind.u64 (IntKind.wrap IntKind.u64 (List.getD a (Int.toNat (↑(DwS.k i) : Int)) (0 : Int)) * 2 ^ min (Int.toNat (Int.tmod (↑n : Int) (32 : Int))) (IntKind.bits IntKind.u64)))))) : Int))) ∧ ∃ j, ShlI a n j ∧ (((↑n : Int) = (↑n : Int) ∧ ((0 : Nat) = 0 ∧ List.length a + n / 32 + 1 = List.length a + n / 32 + 1) ∧ a = a ∧ (↑(List.length a) : Int) = (↑(List.length a) : Int) ∧ IntKind.wrap IntKind.i64 ((↑(DwS.k i) : Int) + 1) = (↑(DwS.k j) : Int) ∧ True) ∧ List.set (List.set (DwS.out i) ((0 : Nat) + Int.toNat (IntKind.wrap IntKind.i64 ((↑(DwS.k i) : Int) + IntKind.wrap IntKind.i64 (Int.tdiv (↑n : Int) (32 : Int))))) (IntKind.wrap IntKind.u32 (↑(BitVec.toNat (BitVec.ofInt (IntKind.bits IntKind.u32) (List.getD (DwS.out i) ((0 : Nat) + Int.toNat (IntKind.wrap IntKind.i64 ((↑(DwS.k i) : Int) + IntKind.wrap IntKind.i64 (Int.tdiv (↑n : Int) (32 : Int))))) (0 : Int)) ||| BitVec.ofInt (IntKind.bits IntKind.u32) (IntKind.wrap IntKind.u32 (IntKind.wrap IntKind.u64 (IntKind.wrap IntKind.u64 (List.getD a (Int.toNat (↑(DwS.k i) : Int)) (0 : Int)) * 2 ^ min (Int.toNat (Int.tmod (↑n : Int) (32 : Int))) (IntKind.bits IntKind.u64)))))) : Int))) ((0 : Nat) + Int.toNat (IntKind.wrap IntKind.i64 (IntKind.wrap IntKind.i64 ((↑(DwS.k i) : Int) + IntKind.wrap IntKind.i64 (Int.tdiv (↑n : Int) (32 : Int))) + 1))) (IntKind.wrap IntKind.u32 (Int.fdiv (IntKind.wrap IntKind.u64 (IntKind.wrap IntKind.u64 (List.getD a (Int.toNat (↑(DwS.k i) : Int)) (0 : Int)) * 2 ^ min (Int.toNat (Int.tmod (↑n : Int) (32 : Int))) (IntKind.bits IntKind.u64))) ((2 : Int) ^ min (Int.toNat (32 : Int)) (IntKind.bits IntKind.u64)))) = DwS.out j ∧ True) ∧ List.length a - DwS.k j < List.length a - DwS.k i else ((0 : Nat) + (List.length a + n / 32 + 1) ≤ List.length (DwS.out i) ∧ (∀ (x : Int), x ∈ List.take (List.length a + n / 32 + 1) (List.drop (0 : Nat) (DwS.out i)) → (0 : Int) ≤ x ∧ x < 4294967296) ∧ List.length (List.take (List.length a + n / 32 + 1) (List.drop (0 : Nat) (DwS.out i))) ≤ 1099511627776) ∧ limbs (Int.toNat (wv (List.take (List.length a + n / 32 + 1) (List.drop (0 : Nat) (DwS.out i))))) = limbs (Int.toNat (wv a * 2 ^ n))) = evFn (env [c_trim] (a_nshl a n)) Tryz.f129 [.ws a, .int .i64 n] (MRes.sat (.ret (.ws (limbs (wv a * 2 ^ n).toNat)))) := by kernel_rfl
structure ShlW (x o : Int) (c : Nat) : Prop where
 a0 : 0 ≤ x * 2 ^ c % 4294967296
 a1 : x * 2 ^ c % 4294967296 + o < 4294967296
 dv : (x * 2 ^ c % 4294967296).toNat % 2 ^ c = 0
 t0 : 0 ≤ x * 2 ^ c
 t1 : x * 2 ^ c < 18446744073709551616
 q0 : 0 ≤ x * 2 ^ c / 4294967296
 q1 : x * 2 ^ c / 4294967296 < 2 ^ c
 q2 : x * 2 ^ c / 4294967296 < 4294967296
theorem shl_word {x o : Int} {c : Nat} (hc : c < 32) (hx : 0 ≤ x ∧ x < 4294967296) (ho : 0 ≤ o ∧ o < 2 ^ c) : ShlW x o c := by
 have hP : (0 : Int) < 2 ^ c := Int.pow_pos (by omega)
 have hQ : (0 : Int) < 2 ^ (32 - c) := Int.pow_pos (by omega)
 have hPQ : (2 : Int) ^ c * 2 ^ (32 - c) = 4294967296 := by rw [← Int.pow_add, show c + (32 - c) = 32 by omega]; rfl
 have hP2 : (2 : Int) ^ c ≤ 4294967296 := by
  have := Int.mul_le_mul_of_nonneg_left (show (1 : Int) ≤ 2 ^ (32 - c) by omega) (show (0 : Int) ≤ 2 ^ c by omega)
  omega
 have e : x * 2 ^ c % 4294967296 = 2 ^ c * (x % 2 ^ (32 - c)) := by rw [← hPQ, Int.mul_comm x, Int.mul_emod_mul_of_pos _ _ hP]
 have r0 := Int.emod_nonneg x (show (2 : Int) ^ (32 - c) ≠ 0 by omega)
 have r1 := Int.emod_lt_of_pos x hQ
 have r2 : (2 : Int) ^ c * (x % 2 ^ (32 - c) + 1) ≤ 2 ^ c * 2 ^ (32 - c) := Int.mul_le_mul_of_nonneg_left (by omega) (by omega)
 rw [Int.mul_add] at r2
 have t0 : 0 ≤ x * 2 ^ c := Int.mul_nonneg hx.1 (by omega)
 have t1 : x * 2 ^ c ≤ 4294967295 * 4294967296 := Int.mul_le_mul (by omega) hP2 (by omega) (by omega)
 have t2 : x * 2 ^ c < 2 ^ c * 4294967296 := by rw [Int.mul_comm]; exact Int.mul_lt_mul_of_pos_left hx.2 hP
 refine ⟨by rw [e]; exact Int.mul_nonneg (by omega) r0, by rw [e]; omega, ?_, t0, by omega, Int.ediv_nonneg t0 (by omega), Int.ediv_lt_of_lt_mul (by omega) t2, by have := Int.ediv_lt_of_lt_mul (show (0 : Int) < 4294967296 by omega) t2; omega⟩
 rw [e]
 obtain ⟨r, hr⟩ := Int.eq_ofNat_of_zero_le r0
 rw [hr]
 have : ((2 : Int) ^ c * (r : Int)).toNat = 2 ^ c * r := by
  have : ((2 : Int) ^ c * (r : Int)) = ((2 ^ c * r : Nat) : Int) := by simp [Int.natCast_pow]
  rw [this, Int.toNat_natCast]
 rw [this, Nat.mul_mod_right]
theorem ShlI.low {a : List Int} {n : Nat} {s : DwS} (h : ShlI a n s) : 0 ≤ s.out.getD (s.k + n / 32) 0 ∧ s.out.getD (s.k + n / 32) 0 < 2 ^ (n % 32) := ⟨(h.wd.getD _).1, h.top⟩
theorem ShlI.step {a : List Int} {n : Nat} {s : DwS} (h : ShlI a n s) (ha : Wd a) (hk : s.k < a.length) :
  ShlI a n ⟨s.k + 1, (s.out.set (s.k + n / 32) (a.getD s.k 0 * 2 ^ (n % 32) % 4294967296 + s.out.getD (s.k + n / 32) 0)).set (s.k + n / 32 + 1) (a.getD s.k 0 * 2 ^ (n % 32) / 4294967296), s.c⟩ := by
 have W := shl_word (Nat.mod_lt n (by omega)) (ha.getD s.k) h.low
 have hl := h.len
 have hlow := h.low
 have hset : ∀ v : Int, (s.out.set (s.k + n / 32) v).getD (s.k + n / 32 + 1) 0 = 0 := fun v => by rw [getD_set_ne _ (by omega)]; exact h.rest _ (by omega)
 refine ⟨by show s.k + 1 ≤ a.length; omega, by simp [h.len], (h.wd.set _ ⟨by have := W.a0; omega, W.a1⟩).set _ ⟨W.q0, W.q2⟩, ?_, ?_, fun j hj => ?_⟩
 ·show wv ((s.out.set (s.k + n / 32) (a.getD s.k 0 * 2 ^ (n % 32) % 4294967296 + s.out.getD (s.k + n / 32) 0)).set (s.k + n / 32 + 1) (a.getD s.k 0 * 2 ^ (n % 32) / 4294967296)) = wv (a.take (s.k + 1)) * 2 ^ n
  rw [wv_set _ _ _ (by simp; omega), hset, wv_set _ _ _ (by omega), h.sum, wv_take_succ, Int.add_mul]
  have h5 := carry_step (4294967296 ^ (s.k + n / 32)) (a.getD s.k 0 * 2 ^ (n % 32))
  have h6 : (4294967296 : Int) ^ s.k * a.getD s.k 0 * 2 ^ n = 4294967296 ^ (s.k + n / 32) * (a.getD s.k 0 * 2 ^ (n % 32)) := by
   have e : (2 : Int) ^ n = 4294967296 ^ (n / 32) * 2 ^ (n % 32) := by
    rw [show (4294967296 : Int) = 2 ^ 32 from rfl, ← Int.pow_mul, ← Int.pow_add]; congr 1; omega
   rw [e, Int.pow_add]; grind
  rw [h6, h5, Int.pow_succ, Int.sub_zero, show (a.getD s.k 0 * 2 ^ (n % 32) % 4294967296 + s.out.getD (s.k + n / 32) 0 - s.out.getD (s.k + n / 32) 0) = a.getD s.k 0 * 2 ^ (n % 32) % 4294967296 by omega]
  omega
 ·show ((s.out.set (s.k + n / 32) _).set (s.k + n / 32 + 1) (a.getD s.k 0 * 2 ^ (n % 32) / 4294967296)).getD (s.k + 1 + n / 32) 0 < 2 ^ (n % 32)
  rw [show s.k + 1 + n / 32 = s.k + n / 32 + 1 by omega]
  have : ∀ (l : List Int) (i : Nat) (v : Int), i < l.length → (l.set i v).getD i 0 = v := fun l i v h => by simp [h]
  rw [this _ _ _ (by simp; omega)]
  exact W.q1
 ·show ((s.out.set (s.k + n / 32) _).set (s.k + n / 32 + 1) _).getD j 0 = 0
  have hj : s.k + 1 + n / 32 < j := hj
  rw [getD_set_ne _ (by omega), getD_set_ne _ (by omega)]
  exact h.rest j (by omega)
theorem pmin2 {c : Nat} (hc : c < 32) : ((2 : Int) ^ min c (IntKind.bits IntKind.u64)) = 2 ^ c := pmin hc
theorem p_nshl : Good Tryz.f129 s_nshl := by
 intro ms p r h hp
 unfold s_nshl at h
 split at h
 ·rename_i a n0
  simp only [Option.some.injEq, Prod.mk.injEq] at h
  obtain ⟨rfl, rfl⟩ := h
  obtain ⟨ha, hn0, hn, la⟩ : Wd a ∧ 0 ≤ n0 ∧ n0 ≤ 1000000000 ∧ a.length ≤ 1000000000 := hp
  obtain ⟨n, rfl⟩ := Int.eq_ofNat_of_zero_le hn0
  have hn : n ≤ 1000000000 := by omega
  have hc : n % 32 < 32 := Nat.mod_lt n (by omega)
  refine ⟨env [c_trim] (a_nshl a n), ?_⟩
  rw [show ((n : Int)).toNat = n from rfl, ← vc_nshl a n]
  have em : IntKind.i64.wrap (Int.tdiv (n : Int) 32) = ((n / 32 : Nat) : Int) := by
   have e : Int.tdiv (n : Int) 32 = ((n / 32 : Nat) : Int) := rfl
   rw [e, i64w (by omega) (by omega)]
  have er : Int.tmod (n : Int) 32 = ((n % 32 : Nat) : Int) := rfl
  have ea : IntKind.i64.wrap ((a.length : Int) + ((n / 32 : Nat) : Int)) = ((a.length + n / 32 : Nat) : Int) := by rw [i64w (by omega) (by omega)]; omega
  have ea1 : IntKind.i64.wrap (((a.length + n / 32 : Nat) : Int) + 1) = ((a.length + n / 32 + 1 : Nat) : Int) := by rw [i64w (by omega) (by omega)]; omega
  simp only [Bool.cond_decide, em, er, ea, ea1, p32, Nat.zero_add, Int.toNat_natCast, List.drop_zero, pmin2 hc]
  refine ⟨fun e => by omega, by and_intros <;> first | exact True.intro | omega, ⟨⟨0, List.replicate (a.length + n / 32 + 1) 0, 0⟩, ⟨by show 0 ≤ _; omega, by simp, Wd.replicate _, by show wv (List.replicate _ 0) = _; rw [wv_replicate]; simp [wv], ?_, fun j _ => ?_⟩, by and_intros <;> first | exact True.intro | rfl⟩, fun s hs => ?_⟩
  ·show (List.replicate _ (0 : Int)).getD _ 0 < 2 ^ (n % 32)
   have : (List.replicate (a.length + n / 32 + 1) (0 : Int)).getD (0 + n / 32) 0 = 0 := by simp [List.getElem?_replicate]; split <;> rfl
   rw [this]; exact Int.pow_pos (by omega)
  ·show (List.replicate _ (0 : Int)).getD j 0 = 0
   simp [List.getElem?_replicate]; split <;> rfl
  ·have hk := hs.hk
   have hl := hs.len
   split
   ·rename_i hlt
    have W := shl_word hc (ha.getD s.k) hs.low
    have hlow := hs.low
    have e1 : IntKind.i64.wrap ((s.k : Int) + 1) = ((s.k + 1 : Nat) : Int) := by rw [i64w (by omega) (by omega)]; omega
    have e2 : IntKind.i64.wrap ((s.k : Int) + ((n / 32 : Nat) : Int)) = ((s.k + n / 32 : Nat) : Int) := by rw [i64w (by omega) (by omega)]; omega
    have e3 : IntKind.i64.wrap (((s.k + n / 32 : Nat) : Int) + 1) = ((s.k + n / 32 + 1 : Nat) : Int) := by rw [i64w (by omega) (by omega)]; omega
    have ex : IntKind.u64.wrap (a.getD s.k 0) = a.getD s.k 0 := by rw [u64w]; have := ha.getD s.k; omega
    have et : IntKind.u64.wrap (a.getD s.k 0 * 2 ^ (n % 32)) = a.getD s.k 0 * 2 ^ (n % 32) := by rw [u64w]; exact Int.emod_eq_of_lt W.t0 W.t1
    have eq : IntKind.u32.wrap (a.getD s.k 0 * 2 ^ (n % 32) / 4294967296) = a.getD s.k 0 * 2 ^ (n % 32) / 4294967296 := by rw [u32w]; exact Int.emod_eq_of_lt W.q0 W.q2
    have eo : IntKind.u32.wrap (↑(BitVec.ofInt (IntKind.bits IntKind.u32) (s.out.getD (s.k + n / 32) 0) ||| BitVec.ofInt (IntKind.bits IntKind.u32) (a.getD s.k 0 * 2 ^ (n % 32) % 4294967296)).toNat) = a.getD s.k 0 * 2 ^ (n % 32) % 4294967296 + s.out.getD (s.k + n / 32) 0 := by
     refine or32 (n % 32) W.a0 (by have := W.a1; omega) W.dv hlow.1 ?_ W.a1
     have : ((2 ^ (n % 32) : Nat) : Int) = (2 : Int) ^ (n % 32) := by simp [Int.natCast_pow]
     omega
    simp only [e1, e2, e3, ex, et, Int.toNat_natCast, Int.fdiv_eq_ediv_of_nonneg _ (show (0 : Int) ≤ 4294967296 by omega), eq, u32w (a.getD s.k 0 * 2 ^ (n % 32)), eo, List.length_set]
    refine ⟨by omega, fun e => by omega, by omega, fun e => by omega, by omega, by omega, by omega, by omega, fun e => by omega, by omega, by omega, by omega, _, hs.step ha (by omega), by and_intros <;> first | exact True.intro | rfl, ?_⟩
    show a.length - (s.k + 1) < a.length - s.k
    omega
   ·rename_i hlt
    have e : s.k = a.length := by omega
    have hsum := hs.sum
    have e2 : s.out.take (a.length + n / 32 + 1) = s.out := List.take_of_length_le (by omega)
    rw [e, List.take_length] at hsum
    rw [e2, hsum]
    exact ⟨⟨by omega, hs.wd, by omega⟩, rfl⟩
 ·simp at h
def c_nshl : Ctr Tryz.prog := ⟨129, s_nshl, fun args w => Tryz.call129 args w, fn_ok mix Tryz.func129 s_nshl p_nshl⟩
end Go.Proofs.YtnfmjlhkknndhaaGreat
/-
 Contracts of functions: package integer.
-/
namespace Go.Proofs.YtnfmjlhkknndhaaGreat
open Go Go.RowKit
def sg (b : Bool) (z : Int) : Int := cond b (-z) z
def sgn (z : Int) : Int := if z = 0 then 0 else if z < 0 then -1 else 1
def GoodF (fn : Func) (s : FSpec) : Prop := ∀ ms p r, s ms = some (p, r) → p.holds → factsL ms → ∃ E : Env Tryz.prog, evFn E fn ms r.sat
/-! ### integer.of -/
def s_of : FSpec
 | [.bool b, .ws l] => some (some (Wd l ∧ l.length ≤ 1000000000), .ret (.big (sg b (wv l)) (32 * l.length)))
 | _ => none
theorem vc_of (b : Bool) (l : List Int) : (((∀ (x : Int), x ∈ l → (0 : Int) ≤ x ∧ x < 4294967296) ∧ List.length l ≤ 1099511627776) ∧ bif (↑(List.length (limbs (Int.toNat (wv l)))) : Int) == 0 then (0 : Int) = sg b (wv l) ∧ ((0 : Nat) ≤ 32 * List.length l ∨ Int.natAbs (0 : Int) < 2 ^ ((32 : Nat) * List.length l)) else b = decide (sg b (wv l) < 0) ∧ limbs (Int.toNat (wv l)) = limbs (Int.natAbs (sg b (wv l))) ∧ Int.natAbs (sg b (wv l)) < 2 ^ ((32 : Nat) * List.length l)) = evFn (env [c_trim] noAnn) Tryz.f104 [.bool b, .ws l] (MRes.sat (.ret (.big (sg b (wv l)) (32 * l.length)))) := by kernel_rfl
theorem len_of_wv {l : List Int} (hw : Wd l) : (wv l).natAbs < 2 ^ (32 * l.length) := by
 have h1 := wv_lt hw
 have h2 := wv_nonneg hw
 have e : ((2 ^ (32 * l.length) : Nat) : Int) = (4294967296 : Int) ^ l.length := by rw [Nat.pow_mul]; simp [Int.natCast_pow]
 omega
theorem natAbs_sg (b : Bool) (z : Int) : (sg b z).natAbs = z.natAbs := by cases b <;> simp [sg]
theorem p_of : Good Tryz.f104 s_of := by
 intro ms p r h hp
 unfold s_of at h
 split at h
 ·rename_i b l
  simp only [Option.some.injEq, Prod.mk.injEq] at h
  obtain ⟨rfl, rfl⟩ := h
  obtain ⟨hw, hl⟩ : Wd l ∧ l.length ≤ 1000000000 := hp
  refine ⟨env [c_trim] noAnn, ?_⟩
  rw [← vc_of b l]
  have h0 := wv_nonneg hw
  have hlen := limbs_len_le (n := (wv l).toNat) (k := l.length) (by
   have h1 := wv_lt hw
   have e : ((4294967296 ^ l.length : Nat) : Int) = (4294967296 : Int) ^ l.length := by simp [Int.natCast_pow]
   omega)
  refine ⟨⟨hw, by omega⟩, ?_⟩
  by_cases hz : wv l = 0
  ·rw [hz]
   have : ((((limbs (0 : Int).toNat).length : Nat) : Int) == 0) = true := by rw [show (0 : Int).toNat = 0 from rfl, limbs_zero]; rfl
   rw [this, cond_true]
   exact ⟨by cases b <;> rfl, .inl (Nat.zero_le _)⟩
  ·have hne : (limbs (wv l).toNat).length ≠ 0 := fun e => by
    have := limbs_eq_nil.1 (List.eq_nil_of_length_eq_zero e)
    omega
   have : ((((limbs (wv l).toNat).length : Nat) : Int) == 0) = false := by simpa using hne
   rw [this, cond_false, natAbs_sg]
   refine ⟨?_, by rw [show (wv l).natAbs = (wv l).toNat by omega], len_of_wv hw⟩
   cases b
   ·exact (decide_eq_false (show ¬ wv l < 0 by omega)).symm
   ·exact (decide_eq_true (show -wv l < 0 by omega)).symm
 ·simp at h
def c_of : Ctr Tryz.prog := ⟨104, s_of, fun args w => Tryz.call104 args w, fn_ok mix Tryz.func104 s_of p_of⟩
theorem lim_len {z : Int} {n : Nat} (h : z.natAbs < 2 ^ n) (hn : n ≤ 2000001) : (limbs z.natAbs).length ≤ 100000 := by
 have := limbs_len_bits h
 omega
theorem wvl (n : Nat) : wv (limbs n) = n := wv_limbs n
theorem sg_dec (z : Int) : sg (decide (z < 0)) (z.natAbs : Int) = z := by
 unfold sg
 by_cases h : z < 0 <;> simp [h] <;> omega
theorem sg_ndec (z : Int) : sg (!decide (z < 0)) (z.natAbs : Int) = -z := by
 unfold sg
 by_cases h : z < 0 <;> simp [h] <;> omega
/-! ### integer.Sign, Cmp, Bits -/
def s_sign : FSpec
 | [.big z _] => some (none, .ret (.int .i64 (sgn z)))
 | _ => none
theorem vc_sign (z : Int) (n : Nat) : (bif (↑(List.length (limbs (Int.natAbs z))) : Int) == 0 then (0 : Int) = sgn z else bif decide (z < 0) then (-1 : Int) = sgn z else (1 : Int) = sgn z) = evFn (env [] noAnn) Tryz.f64 [.big z n] (MRes.sat (.ret (.int .i64 (sgn z)))) := by kernel_rfl
theorem p_sign : Good Tryz.f64 s_sign := by
 intro ms p r h hp
 unfold s_sign at h
 split at h
 ·rename_i z n
  simp only [Option.some.injEq, Prod.mk.injEq] at h
  obtain ⟨rfl, rfl⟩ := h
  refine ⟨env [] noAnn, ?_⟩
  rw [← vc_sign z n]
  by_cases hz : z = 0
  ·subst hz
   have : ((((limbs (0 : Int).natAbs).length : Nat) : Int) == 0) = true := by rw [show (0 : Int).natAbs = 0 from rfl, limbs_zero]; rfl
   rw [this]; rfl
  ·have hne : (limbs z.natAbs).length ≠ 0 := fun e => by
    have := limbs_eq_nil.1 (List.eq_nil_of_length_eq_zero e)
    omega
   have : ((((limbs z.natAbs).length : Nat) : Int) == 0) = false := by simpa using hne
   rw [this, cond_false, Bool.cond_decide]
   unfold sgn
   rw [if_neg hz]
   split <;> rfl
 ·simp at h
def c_sign : Ctr Tryz.prog := ⟨64, s_sign, fun args w => Tryz.call64 args w, fn_ok mix Tryz.func64 s_sign p_sign⟩
def s_bits : FSpec
 | [.big z n] => some (some (n ≤ 1000000), .ret (.int .i64 (bl z.natAbs)))
 | _ => none
theorem vc_bits (z : Int) (n : Nat) : ((limbs (Int.toNat (wv (limbs (Int.natAbs z)))) = limbs (Int.natAbs z) ∧ List.length (limbs (Int.natAbs z)) ≤ 1099511627776) ∧ (↑(bl (Int.toNat (wv (limbs (Int.natAbs z))))) : Int) = (↑(bl (Int.natAbs z)) : Int)) = evFn (env [c_nbits] noAnn) Tryz.f131 [.big z n] (MRes.sat (.ret (.int .i64 (bl z.natAbs)))) := by kernel_rfl
theorem p_bits : GoodF Tryz.f131 s_bits := by
 intro ms p r h hp hf
 unfold s_bits at h
 split at h
 ·rename_i z n
  simp only [Option.some.injEq, Prod.mk.injEq] at h
  obtain ⟨rfl, rfl⟩ := h
  have hn : n ≤ 1000000 := hp
  have hz : z.natAbs < 2 ^ n := hf.1
  refine ⟨env [c_nbits] noAnn, ?_⟩
  rw [← vc_bits z n, wvl, Int.toNat_natCast]
  have := lim_len hz (by omega)
  exact ⟨⟨rfl, by omega⟩, rfl⟩
 ·simp at h
def c_bits : Ctr Tryz.prog := ⟨131, s_bits, fun args w => Tryz.call131 args w, fn_ok_facts mix Tryz.func131 s_bits p_bits⟩
def s_neg : FSpec
 | [.big z n] => some (some (n ≤ 1000000), .ret (.big (-z) n))
 | _ => none
theorem vc_neg (z : Int) (n : Nat) : (((∀ (x : Int), x ∈ limbs (Int.natAbs z) → (0 : Int) ≤ x ∧ x < 4294967296) ∧ List.length (limbs (Int.natAbs z)) ≤ 1000000000) ∧ sg (!decide (z < 0)) (wv (limbs (Int.natAbs z))) = -z ∧ ((32 : Nat) * List.length (limbs (Int.natAbs z)) ≤ n ∨ Int.natAbs (sg (!decide (z < 0)) (wv (limbs (Int.natAbs z)))) < 2 ^ n)) = evFn (env [c_of] noAnn) Tryz.f87 [.big z n] (MRes.sat (.ret (.big (-z) n))) := by kernel_rfl
theorem p_neg : GoodF Tryz.f87 s_neg := by
 intro ms p r h hp hf
 unfold s_neg at h
 split at h
 ·rename_i z n
  simp only [Option.some.injEq, Prod.mk.injEq] at h
  obtain ⟨rfl, rfl⟩ := h
  have hn : n ≤ 1000000 := hp
  have hz : z.natAbs < 2 ^ n := hf.1
  refine ⟨env [c_of] noAnn, ?_⟩
  rw [← vc_neg z n, wvl, sg_ndec]
  have := lim_len hz (by omega)
  exact ⟨⟨limbs_wd _, by omega⟩, rfl, .inr (by rw [Int.natAbs_neg]; exact hz)⟩
 ·simp at h
def c_neg : Ctr Tryz.prog := ⟨87, s_neg, fun args w => Tryz.call87 args w, fn_ok_facts mix Tryz.func87 s_neg p_neg⟩
def s_abs : FSpec
 | [.big z n] => some (some (n ≤ 1000000), .ret (.big z.natAbs n))
 | _ => none
theorem vc_abs (z : Int) (n : Nat) : (((∀ (x : Int), x ∈ limbs (Int.natAbs z) → (0 : Int) ≤ x ∧ x < 4294967296) ∧ List.length (limbs (Int.natAbs z)) ≤ 1000000000) ∧ sg false (wv (limbs (Int.natAbs z))) = (↑(Int.natAbs z) : Int) ∧ ((32 : Nat) * List.length (limbs (Int.natAbs z)) ≤ n ∨ Int.natAbs (sg false (wv (limbs (Int.natAbs z)))) < 2 ^ n)) = evFn (env [c_of] noAnn) Tryz.f94 [.big z n] (MRes.sat (.ret (.big z.natAbs n))) := by kernel_rfl
theorem p_abs : GoodF Tryz.f94 s_abs := by
 intro ms p r h hp hf
 unfold s_abs at h
 split at h
 ·rename_i z n
  simp only [Option.some.injEq, Prod.mk.injEq] at h
  obtain ⟨rfl, rfl⟩ := h
  have hn : n ≤ 1000000 := hp
  have hz : z.natAbs < 2 ^ n := hf.1
  refine ⟨env [c_of] noAnn, ?_⟩
  rw [← vc_abs z n, wvl]
  have := lim_len hz (by omega)
  exact ⟨⟨limbs_wd _, by omega⟩, rfl, .inr (by rw [natAbs_sg, Int.natAbs_natCast]; exact hz)⟩
 ·simp at h
def c_abs : Ctr Tryz.prog := ⟨94, s_abs, fun args w => Tryz.call94 args w, fn_ok_facts mix Tryz.func94 s_abs p_abs⟩
def s_mul : FSpec
 | [.big a n, .big b m] => some (some (n ≤ 1000000 ∧ m ≤ 1000000), .ret (.big (a * b) (n + m)))
 | _ => none
theorem vc_mul (a b : Int) (n m : Nat) : (((∀ (x : Int), x ∈ limbs (Int.natAbs a) → (0 : Int) ≤ x ∧ x < 4294967296) ∧ (∀ (x : Int), x ∈ limbs (Int.natAbs b) → (0 : Int) ≤ x ∧ x < 4294967296) ∧ List.length (limbs (Int.natAbs a)) ≤ 1000000000 ∧ List.length (limbs (Int.natAbs b)) ≤ 1000000000) ∧ ((∀ (x : Int), x ∈ limbs (Int.toNat (wv (limbs (Int.natAbs a)) * wv (limbs (Int.natAbs b)))) → (0 : Int) ≤ x ∧ x < 4294967296) ∧ List.length (limbs (Int.toNat (wv (limbs (Int.natAbs a)) * wv (limbs (Int.natAbs b))))) ≤ 1000000000) ∧ sg (!decide (a < 0) == decide (b < 0)) (wv (limbs (Int.toNat (wv (limbs (Int.natAbs a)) * wv (limbs (Int.natAbs b)))))) = a * b ∧ ((32 : Nat) * List.length (limbs (Int.toNat (wv (limbs (Int.natAbs a)) * wv (limbs (Int.natAbs b))))) ≤ n + m ∨ Int.natAbs (sg (!decide (a < 0) == decide (b < 0)) (wv (limbs (Int.toNat (wv (limbs (Int.natAbs a)) * wv (limbs (Int.natAbs b))))))) < 2 ^ (n + m))) = evFn (env [c_of, c_nmul] noAnn) Tryz.f95 [.big a n, .big b m] (MRes.sat (.ret (.big (a * b) (n + m)))) := by kernel_rfl
theorem p_mul : GoodF Tryz.f95 s_mul := by
 intro ms p r h hp hf
 unfold s_mul at h
 split at h
 ·rename_i a n b m
  simp only [Option.some.injEq, Prod.mk.injEq] at h
  obtain ⟨rfl, rfl⟩ := h
  obtain ⟨hn, hm⟩ : n ≤ 1000000 ∧ m ≤ 1000000 := hp
  have ha : a.natAbs < 2 ^ n := hf.1
  have hb : b.natAbs < 2 ^ m := hf.2.1
  refine ⟨env [c_of, c_nmul] noAnn, ?_⟩
  have hab : (a * b).natAbs < 2 ^ (n + m) := by
   rw [Int.natAbs_mul, Nat.pow_add]
   exact Nat.mul_lt_mul_of_lt_of_le ha (by omega) (Nat.two_pow_pos m)
  have e : ((a.natAbs : Int) * (b.natAbs : Int)).toNat = (a * b).natAbs := by rw [Int.natAbs_mul, ← Int.natCast_mul, Int.toNat_natCast]
  rw [← vc_mul a b n m, wvl, wvl, e, wvl]
  have l1 := lim_len ha (by omega)
  have l2 := lim_len hb (by omega)
  have l3 := lim_len hab (by omega)
  have es : sg (!(decide (a < 0) == decide (b < 0))) ((a * b).natAbs : Int) = a * b := by
   rcases Int.lt_or_le a 0 with h1 | h1 <;> rcases Int.lt_or_le b 0 with h2 | h2
   ·rw [show decide (a < 0) = true from decide_eq_true h1, show decide (b < 0) = true from decide_eq_true h2]
    show ((a * b).natAbs : Int) = a * b
    have := Int.mul_nonneg_of_nonpos_of_nonpos (show a ≤ 0 by omega) (show b ≤ 0 by omega)
    omega
   ·rw [show decide (a < 0) = true from decide_eq_true h1, show decide (b < 0) = false from decide_eq_false (by omega)]
    show -((a * b).natAbs : Int) = a * b
    have := Int.mul_nonpos_of_nonpos_of_nonneg (show a ≤ 0 by omega) h2
    omega
   ·rw [show decide (a < 0) = false from decide_eq_false (by omega), show decide (b < 0) = true from decide_eq_true h2]
    show -((a * b).natAbs : Int) = a * b
    have := Int.mul_nonpos_of_nonneg_of_nonpos h1 (show b ≤ 0 by omega)
    omega
   ·rw [show decide (a < 0) = false from decide_eq_false (by omega), show decide (b < 0) = false from decide_eq_false (by omega)]
    show ((a * b).natAbs : Int) = a * b
    have := Int.mul_nonneg h1 h2
    omega
  exact ⟨⟨limbs_wd _, limbs_wd _, by omega, by omega⟩, ⟨limbs_wd _, by omega⟩, es, .inr (by rw [es]; exact hab)⟩
 ·simp at h
def c_mul : Ctr Tryz.prog := ⟨95, s_mul, fun args w => Tryz.call95 args w, fn_ok_facts mix Tryz.func95 s_mul p_mul⟩
def s_iadd : FSpec
 | [.big a n, .big b m] => some (some (n ≤ 1000000 ∧ m ≤ 1000000), .ret (.big (a + b) (max n m + 1)))
 | _ => none
theorem vc_iadd (a b : Int) (n m : Nat) : (bif decide (a < 0) == decide (b < 0) then ((∀ (x : Int), x ∈ limbs (Int.natAbs a) → (0 : Int) ≤ x ∧ x < 4294967296) ∧ (∀ (x : Int), x ∈ limbs (Int.natAbs b) → (0 : Int) ≤ x ∧ x < 4294967296) ∧ List.length (limbs (Int.natAbs a)) ≤ 1000000000 ∧ List.length (limbs (Int.natAbs b)) ≤ 1000000000) ∧ ((∀ (x : Int), x ∈ limbs (Int.toNat (wv (limbs (Int.natAbs a)) + wv (limbs (Int.natAbs b)))) → (0 : Int) ≤ x ∧ x < 4294967296) ∧ List.length (limbs (Int.toNat (wv (limbs (Int.natAbs a)) + wv (limbs (Int.natAbs b))))) ≤ 1000000000) ∧ sg (decide (a < 0)) (wv (limbs (Int.toNat (wv (limbs (Int.natAbs a)) + wv (limbs (Int.natAbs b)))))) = a + b ∧ ((32 : Nat) * List.length (limbs (Int.toNat (wv (limbs (Int.natAbs a)) + wv (limbs (Int.natAbs b))))) ≤ max n m + 1 ∨ Int.natAbs (sg (decide (a < 0)) (wv (limbs (Int.toNat (wv (limbs (Int.natAbs a)) + wv (limbs (Int.natAbs b))))))) < 2 ^ (max n m + 1)) else (limbs (Int.toNat (wv (limbs (Int.natAbs a)))) = limbs (Int.natAbs a) ∧ limbs (Int.toNat (wv (limbs (Int.natAbs b)))) = limbs (Int.natAbs b) ∧ List.length (limbs (Int.natAbs a)) ≤ 1099511627776 ∧ List.length (limbs (Int.natAbs b)) ≤ 1099511627776) ∧ bif decide (icmp (wv (limbs (Int.natAbs a))) (wv (limbs (Int.natAbs b))) < 0) then ((∀ (x : Int), x ∈ limbs (Int.natAbs b) → (0 : Int) ≤ x ∧ x < 4294967296) ∧ (∀ (x : Int), x ∈ limbs (Int.natAbs a) → (0 : Int) ≤ x ∧ x < 4294967296) ∧ wv (limbs (Int.natAbs a)) ≤ wv (limbs (Int.natAbs b)) ∧ List.length (limbs (Int.natAbs a)) ≤ List.length (limbs (Int.natAbs b)) ∧ List.length (limbs (Int.natAbs b)) ≤ 1000000000) ∧ ((∀ (x : Int), x ∈ limbs (Int.toNat (wv (limbs (Int.natAbs b)) - wv (limbs (Int.natAbs a)))) → (0 : Int) ≤ x ∧ x < 4294967296) ∧ List.length (limbs (Int.toNat (wv (limbs (Int.natAbs b)) - wv (limbs (Int.natAbs a))))) ≤ 1000000000) ∧ sg (decide (b < 0)) (wv (limbs (Int.toNat (wv (limbs (Int.natAbs b)) - wv (limbs (Int.natAbs a)))))) = a + b ∧ ((32 : Nat) * List.length (limbs (Int.toNat (wv (limbs (Int.natAbs b)) - wv (limbs (Int.natAbs a))))) ≤ max n m + 1 ∨ Int.natAbs (sg (decide (b < 0)) (wv (limbs (Int.toNat (wv (limbs (Int.natAbs b)) - wv (limbs (Int.natAbs a))))))) < 2 ^ (max n m + 1)) else ((∀ (x : Int), x ∈ limbs (Int.natAbs a) → (0 : Int) ≤ x ∧ x < 4294967296) ∧ (∀ (x : Int), x ∈ limbs (Int.natAbs b) → (0 : Int) ≤ x ∧ x < 4294967296) ∧ wv (limbs (Int.natAbs b)) ≤ wv (limbs (Int.natAbs a)) ∧ List.length (limbs (Int.natAbs b)) ≤ List.length (limbs (Int.natAbs a)) ∧ List.length (limbs (Int.natAbs a)) ≤ 1000000000) ∧ ((∀ (x : Int), x ∈ limbs (Int.toNat (wv (limbs (Int.natAbs a)) - wv (limbs (Int.natAbs b)))) → (0 : Int) ≤ x ∧ x < 4294967296) ∧ List.length (limbs (Int.toNat (wv (limbs (Int.natAbs a)) - wv (limbs (Int.natAbs b))))) ≤ 1000000000) ∧ sg (decide (a < 0)) (wv (limbs (Int.toNat (wv (limbs (Int.natAbs a)) - wv (limbs (Int.natAbs b)))))) = a + b ∧ ((32 : Nat) * List.length (limbs (Int.toNat (wv (limbs (Int.natAbs a)) - wv (limbs (Int.natAbs b))))) ≤ max n m + 1 ∨ Int.natAbs (sg (decide (a < 0)) (wv (limbs (Int.toNat (wv (limbs (Int.natAbs a)) - wv (limbs (Int.natAbs b))))))) < 2 ^ (max n m + 1))) = evFn (env [c_of, c_nadd, c_nsub, c_ncmp] noAnn) Tryz.f67 [.big a n, .big b m] (MRes.sat (.ret (.big (a + b) (max n m + 1)))) := by kernel_rfl
theorem p_iadd : GoodF Tryz.f67 s_iadd := by
 intro ms p r h hp hf
 unfold s_iadd at h
 split at h
 ·rename_i a n b m
  simp only [Option.some.injEq, Prod.mk.injEq] at h
  obtain ⟨rfl, rfl⟩ := h
  obtain ⟨hn, hm⟩ : n ≤ 1000000 ∧ m ≤ 1000000 := hp
  have ha : a.natAbs < 2 ^ n := hf.1
  have hb : b.natAbs < 2 ^ m := hf.2.1
  refine ⟨env [c_of, c_nadd, c_nsub, c_ncmp] noAnn, ?_⟩
  have h1 : 2 ^ n ≤ 2 ^ max n m := Nat.pow_le_pow_right (by omega) (by omega)
  have h2 : 2 ^ m ≤ 2 ^ max n m := Nat.pow_le_pow_right (by omega) (by omega)
  have h3 : 2 ^ (max n m + 1) = 2 ^ max n m * 2 := Nat.pow_succ ..
  have hM : max n m + 1 ≤ 2000001 := by omega
  have hab : (a + b).natAbs < 2 ^ (max n m + 1) := by omega
  have hs : (a.natAbs + b.natAbs) < 2 ^ (max n m + 1) := by omega
  have l1 := lim_len ha (by omega)
  have l2 := lim_len hb (by omega)
  have lim : ∀ k : Nat, k < 2 ^ (max n m + 1) → (limbs k).length ≤ 1000000000 := fun k hk => by have := limbs_len_bits hk; omega
  have mono : ∀ x y : Nat, x ≤ y → (limbs x).length ≤ (limbs y).length := fun x y hxy => limbs_len_le (Nat.lt_of_le_of_lt hxy (limbs_lt y))
  have e1 : ((a.natAbs : Int) + (b.natAbs : Int)).toNat = a.natAbs + b.natAbs := by omega
  rw [← vc_iadd a b n m, wvl, wvl, e1, wvl]
  generalize hX : ((b.natAbs : Int) - (a.natAbs : Int)).toNat = X
  generalize hY : ((a.natAbs : Int) - (b.natAbs : Int)).toNat = Y
  rw [wvl, wvl, Int.toNat_natCast, Int.toNat_natCast]
  rcases Int.lt_or_le a 0 with q1 | q1 <;> rcases Int.lt_or_le b 0 with q2 | q2
  ·rw [show decide (a < 0) = true from decide_eq_true q1, show decide (b < 0) = true from decide_eq_true q2]
   have es : sg true ((a.natAbs + b.natAbs : Nat) : Int) = a + b := by show -(((a.natAbs + b.natAbs : Nat) : Int)) = _; omega
   exact ⟨⟨limbs_wd _, limbs_wd _, by omega, by omega⟩, ⟨limbs_wd _, lim _ hs⟩, es, .inr (by rw [es]; exact hab)⟩
  ·rw [show decide (a < 0) = true from decide_eq_true q1, show decide (b < 0) = false from decide_eq_false (by omega)]
   refine ⟨⟨rfl, rfl, by omega, by omega⟩, ?_⟩
   rw [Bool.cond_decide]
   split
   ·rename_i hc
    have hc : a.natAbs < b.natAbs := by unfold icmp at hc; split at hc <;> (try split at hc) <;> omega
    have es : sg false (X : Int) = a + b := by show (X : Int) = _; omega
    exact ⟨⟨limbs_wd _, limbs_wd _, by omega, mono _ _ (by omega), by omega⟩, ⟨limbs_wd _, lim _ (by omega)⟩, es, .inr (by rw [es]; exact hab)⟩
   ·rename_i hc
    have hc : b.natAbs ≤ a.natAbs := by unfold icmp at hc; split at hc <;> (try split at hc) <;> omega
    have es : sg true (Y : Int) = a + b := by show -(Y : Int) = _; omega
    exact ⟨⟨limbs_wd _, limbs_wd _, by omega, mono _ _ (by omega), by omega⟩, ⟨limbs_wd _, lim _ (by omega)⟩, es, .inr (by rw [es]; exact hab)⟩
  ·rw [show decide (a < 0) = false from decide_eq_false (by omega), show decide (b < 0) = true from decide_eq_true q2]
   refine ⟨⟨rfl, rfl, by omega, by omega⟩, ?_⟩
   rw [Bool.cond_decide]
   split
   ·rename_i hc
    have hc : a.natAbs < b.natAbs := by unfold icmp at hc; split at hc <;> (try split at hc) <;> omega
    have es : sg true (X : Int) = a + b := by show -(X : Int) = _; omega
    exact ⟨⟨limbs_wd _, limbs_wd _, by omega, mono _ _ (by omega), by omega⟩, ⟨limbs_wd _, lim _ (by omega)⟩, es, .inr (by rw [es]; exact hab)⟩
   ·rename_i hc
    have hc : b.natAbs ≤ a.natAbs := by unfold icmp at hc; split at hc <;> (try split at hc) <;> omega
    have es : sg false (Y : Int) = a + b := by show (Y : Int) = _; omega
    exact ⟨⟨limbs_wd _, limbs_wd _, by omega, mono _ _ (by omega), by omega⟩, ⟨limbs_wd _, lim _ (by omega)⟩, es, .inr (by rw [es]; exact hab)⟩
  ·rw [show decide (a < 0) = false from decide_eq_false (by omega), show decide (b < 0) = false from decide_eq_false (by omega)]
   have es : sg false ((a.natAbs + b.natAbs : Nat) : Int) = a + b := by show (((a.natAbs + b.natAbs : Nat) : Int)) = _; omega
   exact ⟨⟨limbs_wd _, limbs_wd _, by omega, by omega⟩, ⟨limbs_wd _, lim _ hs⟩, es, .inr (by rw [es]; exact hab)⟩
 ·simp at h
def c_iadd : Ctr Tryz.prog := ⟨67, s_iadd, fun args w => Tryz.call67 args w, fn_ok_facts mix Tryz.func67 s_iadd p_iadd⟩
def s_isub : FSpec
 | [.big a n, .big b m] => some (some (n ≤ 1000000 ∧ m ≤ 1000000), .ret (.big (a - b) (max n m + 1)))
 | _ => none
theorem vc_isub (a b : Int) (n m : Nat) : (m ≤ 1000000 ∧ (n ≤ 1000000 ∧ m ≤ 1000000) ∧ a + -b = a - b ∧ (max n m + 1 ≤ max n m + 1 ∨ Int.natAbs (a + -b) < 2 ^ (max n m + 1))) = evFn (env [c_iadd, c_neg] noAnn) Tryz.f68 [.big a n, .big b m] (MRes.sat (.ret (.big (a - b) (max n m + 1)))) := by kernel_rfl
def s_icmp : FSpec
 | [.big a n, .big b m] => some (some (n ≤ 1000000 ∧ m ≤ 1000000), .ret (.int .i64 (icmp a b)))
 | _ => none
theorem vc_icmp (a b : Int) (n m : Nat) : (bif !decide (a < 0) == decide (b < 0) then icmp (sgn a) (sgn b) = icmp a b else (limbs (Int.toNat (wv (limbs (Int.natAbs a)))) = limbs (Int.natAbs a) ∧ limbs (Int.toNat (wv (limbs (Int.natAbs b)))) = limbs (Int.natAbs b) ∧ List.length (limbs (Int.natAbs a)) ≤ 1099511627776 ∧ List.length (limbs (Int.natAbs b)) ≤ 1099511627776) ∧ (0 : Nat) + 2 ≤ List.length [sgn a, (1 : Int)] ∧ IntKind.wrap IntKind.i64 (icmp (wv (limbs (Int.natAbs a))) (wv (limbs (Int.natAbs b))) * if List.getD [sgn a, (1 : Int)] ((0 : Nat) + 0) (0 : Int) = 0 then List.getD [sgn a, (1 : Int)] ((0 : Nat) + 1) (0 : Int) else List.getD [sgn a, (1 : Int)] ((0 : Nat) + 0) (0 : Int)) = icmp a b) = evFn (env [c_sign, c_cmpI, c_ncmp, c_or] noAnn) Tryz.f65 [.big a n, .big b m] (MRes.sat (.ret (.int .i64 (icmp a b)))) := by kernel_rfl
def s_iof : FSpec
 | [.int .i64 z] => some (some (-9223372036854775808 ≤ z ∧ z ≤ 9223372036854775807), .ret (.big z 64))
 | _ => none
theorem vc_iof (z : Int) : ((0 : Int) ≤ 32 ∧ ((0 : Nat) + 2 ≤ List.length [IntKind.wrap IntKind.u32 (IntKind.wrap IntKind.u64 (maxI z (IntKind.wrap IntKind.i64 ((0 : Int) - z)))), IntKind.wrap IntKind.u32 (Int.fdiv (IntKind.wrap IntKind.u64 (maxI z (IntKind.wrap IntKind.i64 ((0 : Int) - z)))) ((2 : Int) ^ min (Int.toNat (32 : Int)) (IntKind.bits IntKind.u64)))] ∧ (∀ (x : Int), x ∈ List.take (2 : Nat) (List.drop (0 : Nat) [IntKind.wrap IntKind.u32 (IntKind.wrap IntKind.u64 (maxI z (IntKind.wrap IntKind.i64 ((0 : Int) - z)))), IntKind.wrap IntKind.u32 (Int.fdiv (IntKind.wrap IntKind.u64 (maxI z (IntKind.wrap IntKind.i64 ((0 : Int) - z)))) ((2 : Int) ^ min (Int.toNat (32 : Int)) (IntKind.bits IntKind.u64)))]) → (0 : Int) ≤ x ∧ x < 4294967296) ∧ List.length (List.take (2 : Nat) (List.drop (0 : Nat) [IntKind.wrap IntKind.u32 (IntKind.wrap IntKind.u64 (maxI z (IntKind.wrap IntKind.i64 ((0 : Int) - z)))), IntKind.wrap IntKind.u32 (Int.fdiv (IntKind.wrap IntKind.u64 (maxI z (IntKind.wrap IntKind.i64 ((0 : Int) - z)))) ((2 : Int) ^ min (Int.toNat (32 : Int)) (IntKind.bits IntKind.u64)))])) ≤ 1000000000) ∧ sg (decide (z < 0)) (wv (List.take (2 : Nat) (List.drop (0 : Nat) [IntKind.wrap IntKind.u32 (IntKind.wrap IntKind.u64 (maxI z (IntKind.wrap IntKind.i64 ((0 : Int) - z)))), IntKind.wrap IntKind.u32 (Int.fdiv (IntKind.wrap IntKind.u64 (maxI z (IntKind.wrap IntKind.i64 ((0 : Int) - z)))) ((2 : Int) ^ min (Int.toNat (32 : Int)) (IntKind.bits IntKind.u64)))]))) = z ∧ ((32 : Nat) * List.length (List.take (2 : Nat) (List.drop (0 : Nat) [IntKind.wrap IntKind.u32 (IntKind.wrap IntKind.u64 (maxI z (IntKind.wrap IntKind.i64 ((0 : Int) - z)))), IntKind.wrap IntKind.u32 (Int.fdiv (IntKind.wrap IntKind.u64 (maxI z (IntKind.wrap IntKind.i64 ((0 : Int) - z)))) ((2 : Int) ^ min (Int.toNat (32 : Int)) (IntKind.bits IntKind.u64)))])) ≤ 64 ∨ Int.natAbs (sg (decide (z < 0)) (wv (List.take (2 : Nat) (List.drop (0 : Nat) [IntKind.wrap IntKind.u32 (IntKind.wrap IntKind.u64 (maxI z (IntKind.wrap IntKind.i64 ((0 : Int) - z)))), IntKind.wrap IntKind.u32 (Int.fdiv (IntKind.wrap IntKind.u64 (maxI z (IntKind.wrap IntKind.i64 ((0 : Int) - z)))) ((2 : Int) ^ min (Int.toNat (32 : Int)) (IntKind.bits IntKind.u64)))])))) < 2 ^ (64 : Nat))) = evFn (env [c_of] noAnn) Tryz.f109 [.int .i64 z] (MRes.sat (.ret (.big z 64))) := by kernel_rfl
theorem p_isub : Good Tryz.f68 s_isub := by
 intro ms p r h hp
 unfold s_isub at h
 split at h
 ·rename_i a n b m
  simp only [Option.some.injEq, Prod.mk.injEq] at h
  obtain ⟨rfl, rfl⟩ := h
  obtain ⟨hn, hm⟩ : n ≤ 1000000 ∧ m ≤ 1000000 := hp
  refine ⟨env [c_iadd, c_neg] noAnn, ?_⟩
  rw [← vc_isub a b n m]
  exact ⟨hm, ⟨hn, hm⟩, by omega, .inl (Nat.le_refl _)⟩
 ·simp at h
def c_isub : Ctr Tryz.prog := ⟨68, s_isub, fun args w => Tryz.call68 args w, fn_ok mix Tryz.func68 s_isub p_isub⟩
theorem p_icmp : GoodF Tryz.f65 s_icmp := by
 intro ms p r h hp hf
 unfold s_icmp at h
 split at h
 ·rename_i a n b m
  simp only [Option.some.injEq, Prod.mk.injEq] at h
  obtain ⟨rfl, rfl⟩ := h
  obtain ⟨hn, hm⟩ : n ≤ 1000000 ∧ m ≤ 1000000 := hp
  have ha : a.natAbs < 2 ^ n := hf.1
  have hb : b.natAbs < 2 ^ m := hf.2.1
  have l1 := lim_len ha (by omega)
  have l2 := lim_len hb (by omega)
  refine ⟨env [c_sign, c_cmpI, c_ncmp, c_or] noAnn, ?_⟩
  rw [← vc_icmp a b n m, wvl, wvl, Int.toNat_natCast, Int.toNat_natCast]
  have fin : (a < 0 ↔ b < 0) → (limbs a.natAbs = limbs a.natAbs ∧ limbs b.natAbs = limbs b.natAbs ∧ (limbs a.natAbs).length ≤ 1099511627776 ∧ (limbs b.natAbs).length ≤ 1099511627776) ∧
    0 + 2 ≤ [sgn a, (1 : Int)].length ∧ IntKind.i64.wrap (icmp (a.natAbs : Int) (b.natAbs : Int) * if [sgn a, (1 : Int)].getD (0 + 0) 0 = 0 then [sgn a, (1 : Int)].getD (0 + 1) 0 else [sgn a, (1 : Int)].getD (0 + 0) 0) = icmp a b := by
   intro hs
   refine ⟨⟨rfl, rfl, by omega, by omega⟩, by simp, ?_⟩
   show IntKind.i64.wrap (icmp (a.natAbs : Int) (b.natAbs : Int) * if sgn a = 0 then 1 else sgn a) = icmp a b
   have e : icmp (a.natAbs : Int) (b.natAbs : Int) * (if sgn a = 0 then 1 else sgn a) = icmp a b := by
    unfold sgn icmp
    (repeat' split) <;> omega
   rw [e, i64w]
   ·unfold icmp; (repeat' split) <;> omega
   ·unfold icmp; (repeat' split) <;> omega
  have dif : ¬ (a < 0 ↔ b < 0) → icmp (sgn a) (sgn b) = icmp a b := by
   intro hs
   unfold sgn icmp
   (repeat' split) <;> omega
  rcases Int.lt_or_le a 0 with q1 | q1 <;> rcases Int.lt_or_le b 0 with q2 | q2
  ·rw [show decide (a < 0) = true from decide_eq_true q1, show decide (b < 0) = true from decide_eq_true q2]
   exact fin (by omega)
  ·rw [show decide (a < 0) = true from decide_eq_true q1, show decide (b < 0) = false from decide_eq_false (by omega)]
   exact dif (by omega)
  ·rw [show decide (a < 0) = false from decide_eq_false (by omega), show decide (b < 0) = true from decide_eq_true q2]
   exact dif (by omega)
  ·rw [show decide (a < 0) = false from decide_eq_false (by omega), show decide (b < 0) = false from decide_eq_false (by omega)]
   exact fin (by omega)
 ·simp at h
def c_icmp : Ctr Tryz.prog := ⟨65, s_icmp, fun args w => Tryz.call65 args w, fn_ok_facts mix Tryz.func65 s_icmp p_icmp⟩
theorem p_iof : Good Tryz.f109 s_iof := by
 intro ms p r h hp
 unfold s_iof at h
 split at h
 ·rename_i z
  simp only [Option.some.injEq, Prod.mk.injEq] at h
  obtain ⟨rfl, rfl⟩ := h
  obtain ⟨h1, h2⟩ : -9223372036854775808 ≤ z ∧ z ≤ 9223372036854775807 := hp
  refine ⟨env [c_of] noAnn, ?_⟩
  have hV : IntKind.u64.wrap (maxI z (IntKind.i64.wrap ((0 : Int) - z))) = z.natAbs := by
   by_cases e : z = -9223372036854775808
   ·subst e; decide +kernel
   ·rw [i64w (by omega) (by omega), u64w]
    unfold maxI
    split <;> omega
  rw [← vc_iof z, hV, p32, Int.fdiv_eq_ediv_of_nonneg _ (by omega), u32w, u32w]
  have hl : (List.take 2 (List.drop 0 [(z.natAbs : Int) % 4294967296, (z.natAbs : Int) / 4294967296 % 4294967296])) = [(z.natAbs : Int) % 4294967296, (z.natAbs : Int) / 4294967296 % 4294967296] := rfl
  rw [hl]
  have hw : wv [(z.natAbs : Int) % 4294967296, (z.natAbs : Int) / 4294967296 % 4294967296] = z.natAbs := by simp only [wv]; omega
  rw [hw, sg_dec]
  refine ⟨by omega, ⟨by simp, fun x hx => ?_, by simp⟩, rfl, .inl (by simp)⟩
  simp only [List.mem_cons, List.not_mem_nil, or_false] at hx
  rcases hx with rfl | rfl <;> omega
 ·simp at h
def c_iof : Ctr Tryz.prog := ⟨109, s_iof, fun args w => Tryz.call109 args w, fn_ok mix Tryz.func109 s_iof p_iof⟩
end Go.Proofs.YtnfmjlhkknndhaaGreat
/-
 Plain facts for the division of sizes, digit by digit (Knuth's algorithm D).
-/
namespace Go.Proofs.YtnfmjlhkknndhaaGreat
open Go Go.RowKit
structure KN (T V P lo u0 u1 u2 vl v1 v2 : Int) : Prop where
 hT : T = lo + P * (u2 + 4294967296 * u1 + 4294967296 * (4294967296 * u0))
 hV : V = vl + P * (v2 + 4294967296 * v1)
 hP : 0 < P
 hlo : 0 ≤ lo ∧ lo < P
 hvl : 0 ≤ vl ∧ vl < P
 h0 : 0 ≤ u0 ∧ u0 ≤ v1
 h1 : 0 ≤ u1 ∧ u1 < 4294967296
 h2 : 0 ≤ u2 ∧ u2 < 4294967296
 hv1 : 2147483648 ≤ v1 ∧ v1 < 4294967296
 hv2 : 0 ≤ v2 ∧ v2 < 4294967296
 hTV : T < 4294967296 * V
theorem KN.vpos {T V P lo u0 u1 u2 vl v1 v2 : Int} (h : KN T V P lo u0 u1 u2 vl v1 v2) : P * 4294967296 ≤ V := by
 have h1 := h.hvl
 have h2 := h.hv1
 have h3 := h.hv2
 have hP := h.hP
 have h4 : P * 4294967296 ≤ P * (v2 + 4294967296 * v1) := Int.mul_le_mul_of_nonneg_left (by omega) (by omega)
 rw [h.hV]; omega
theorem KN.dec {T V P lo u0 u1 u2 vl v1 v2 : Int} (h : KN T V P lo u0 u1 u2 vl v1 v2) {g r : Int} (hg : 0 ≤ g) (he : g * v1 + r = u0 * 4294967296 + u1) (hc : r * 4294967296 + u2 < g * v2) : T < g * V := by
 have h1 := h.hvl
 have h2 := h.hlo
 have hP := h.hP
 have h4 : 0 ≤ g * vl := Int.mul_nonneg hg h1.1
 have e : g * V = g * vl + P * (g * v2 + 4294967296 * (g * v1)) := by rw [h.hV]; grind
 have h5 : P * (u2 + 4294967296 * u1 + 4294967296 * (4294967296 * u0) + 1) ≤ P * (g * v2 + 4294967296 * (g * v1)) := Int.mul_le_mul_of_nonneg_left (by omega) (by omega)
 rw [Int.mul_add P _ 1] at h5
 rw [e, h.hT]; omega
theorem KN.big {T V P lo u0 u1 u2 vl v1 v2 : Int} (h : KN T V P lo u0 u1 u2 vl v1 v2) {g : Int} (hg : 4294967296 ≤ g) : T < g * V := by
 have h1 := h.vpos
 have hP := h.hP
 have h2 := h.hTV
 have h3 : 4294967296 * V ≤ g * V := Int.mul_le_mul_of_nonneg_right hg (by omega)
 omega
theorem KN.fin {T V P lo u0 u1 u2 vl v1 v2 : Int} (h : KN T V P lo u0 u1 u2 vl v1 v2) {g r : Int} (hg : 0 ≤ g) (hg2 : g < 4294967296) (he : g * v1 + r = u0 * 4294967296 + u1) (hc : g * v2 ≤ r * 4294967296 + u2) : g * V < T + V := by
 have h1 := h.hvl
 have h2 := h.hlo
 have hP := h.hP
 have hv := h.vpos
 have h4 : g * vl ≤ 4294967295 * vl := Int.mul_le_mul_of_nonneg_right (by omega) h1.1
 have h6 : 4294967295 * vl < P * 4294967296 := by omega
 have e : g * V = g * vl + P * (g * v2 + 4294967296 * (g * v1)) := by rw [h.hV]; grind
 have h5 : P * (g * v2 + 4294967296 * (g * v1)) ≤ P * (u2 + 4294967296 * u1 + 4294967296 * (4294967296 * u0)) := Int.mul_le_mul_of_nonneg_left (by omega) (by omega)
 rw [e, h.hT]; omega
theorem KN.guess {T V P lo u0 u1 u2 vl v1 v2 : Int} (h : KN T V P lo u0 u1 u2 vl v1 v2) : T < ((u0 * 4294967296 + u1) / v1 + 1) * V := by
 have hv1 := h.hv1
 have hP := h.hP
 have h1 := h.hvl
 have h2 := h.hlo
 have h3 := h.hv2
 have hm := Int.mul_ediv_add_emod (u0 * 4294967296 + u1) v1
 have hr := Int.emod_lt_of_pos (u0 * 4294967296 + u1) (show 0 < v1 by omega)
 have hq : 0 ≤ (u0 * 4294967296 + u1) / v1 := Int.ediv_nonneg (by have := h.h0; have := h.h1; omega) (by omega)
 generalize (u0 * 4294967296 + u1) / v1 = g at *
 generalize (u0 * 4294967296 + u1) % v1 = r at *
 have e : (g + 1) * V = (g + 1) * vl + P * ((g + 1) * v2 + 4294967296 * (v1 * g + v1)) := by rw [h.hV]; grind
 have h4 : 0 ≤ (g + 1) * vl := Int.mul_nonneg (by omega) h1.1
 have h6 : 0 ≤ (g + 1) * v2 := Int.mul_nonneg (by omega) h3.1
 have hu2 := h.h2
 have h5 : P * (u2 + 4294967296 * u1 + 4294967296 * (4294967296 * u0) + 1) ≤ P * ((g + 1) * v2 + 4294967296 * (v1 * g + v1)) := Int.mul_le_mul_of_nonneg_left (by omega) (by omega)
 rw [Int.mul_add P _ 1] at h5
 rw [e, h.hT]; omega
structure KV (v : List Int) : Prop where
 wd : Wd v
 len : 2 ≤ v.length
 top : 2147483648 ≤ v.getD (v.length - 1) 0
theorem mul_lt_cancel {P a b : Int} (hP : 0 < P) (h : P * a < P * b) : a < b := by
 rcases Int.lt_or_le a b with h1 | h1
 ·exact h1
 ·have := Int.mul_le_mul_of_nonneg_left h1 (show 0 ≤ P by omega)
  omega
theorem KV.split {v : List Int} (h : KV v) : wv v = wv (v.take (v.length - 2)) + 4294967296 ^ (v.length - 2) * (v.getD (v.length - 2) 0 + 4294967296 * v.getD (v.length - 1) 0) := by
 have hl := h.len
 have h1 := wv_take_succ v (v.length - 2)
 have h2 := wv_take_succ v (v.length - 1)
 rw [show v.length - 2 + 1 = v.length - 1 by omega] at h1
 rw [show v.length - 1 + 1 = v.length by omega, List.take_length] at h2
 have e : (4294967296 : Int) ^ (v.length - 1) = 4294967296 ^ (v.length - 2) * 4294967296 := by
  rw [show v.length - 1 = v.length - 2 + 1 by omega, Int.pow_succ]
 rw [h2, h1, e]; grind
theorem wv_take_drop (l : List Int) (k : Nat) : wv l = wv (l.take k) + 4294967296 ^ k * wv (l.drop k) := by
 rcases Nat.lt_or_ge k l.length with h | h
 ·have e2 := wv_append (l.take k) (l.drop k)
  rw [List.take_append_drop, List.length_take, Nat.min_eq_left (by omega)] at e2
  exact e2
 ·rw [List.take_of_length_le h, List.drop_of_length_le h]; simp [wv]
theorem wv_take_lt {l : List Int} (h : Wd l) (k : Nat) : 0 ≤ wv (l.take k) ∧ wv (l.take k) < 4294967296 ^ k := by
 have h1 := wv_lt (h.take k)
 have h2 := wv_nonneg (h.take k)
 have h3 := pow_le32 (List.length_take_le k l)
 omega
theorem getD_drop' (l : List Int) (j i : Nat) : (l.drop j).getD i 0 = l.getD (j + i) 0 := by
 simp [List.getD_eq_getElem?_getD, List.getElem?_drop]
theorem KV.nums {v u : List Int} (h : KV v) (hu : Wd u) (j : Nat) (hT : wv (u.drop j) < 4294967296 * wv v) :
  KN (wv (u.drop j)) (wv v) (4294967296 ^ (v.length - 2)) (wv ((u.drop j).take (v.length - 2))) (u.getD (j + v.length) 0) (u.getD (j + v.length - 1) 0) (u.getD (j + v.length - 2) 0)
   (wv (v.take (v.length - 2))) (v.getD (v.length - 1) 0) (v.getD (v.length - 2) 0) ∧ wv (u.drop (j + v.length + 1)) = 0 := by
 have hl := h.len
 have hL : Wd (u.drop j) := hu.drop j
 have d0 := wv_take_drop (u.drop j) (v.length - 2)
 have d1 := getD_drop_wv (a := u.drop j) (v.length - 2)
 have d2 := getD_drop_wv (a := u.drop j) (v.length - 2 + 1)
 have d3 := getD_drop_wv (a := u.drop j) (v.length - 2 + 1 + 1)
 rw [getD_drop'] at d1 d2 d3
 rw [show v.length - 2 + 1 + 1 = v.length by omega] at d2 d3
 rw [show v.length - 2 + 1 = v.length - 1 by omega] at d1 d2
 rw [List.drop_drop, List.drop_drop] at d1 d2 d3
 rw [List.drop_drop] at d0
 have vs := h.split
 have hp := pow_pos32 (v.length - 2)
 have t1 := wv_take_lt hL (v.length - 2)
 have t2 := wv_take_lt h.wd (v.length - 2)
 have hv1 := h.wd.getD (v.length - 1)
 have hv2 := h.wd.getD (v.length - 2)
 have w0 := hu.getD (j + v.length)
 have w1 := hu.getD (j + (v.length - 1))
 have w2 := hu.getD (j + (v.length - 2))
 have n1 := wv_nonneg (hu.drop (j + v.length))
 have n2 := wv_nonneg (hu.drop (j + (v.length + 1)))
 rw [show j + v.length - 1 = j + (v.length - 1) by omega, show j + v.length - 2 = j + (v.length - 2) by omega, show j + v.length + 1 = j + (v.length + 1) by omega]
 have top := h.top
 generalize hTT : wv (u.drop j) = T at *
 generalize hVV : wv v = V at *
 generalize wv (v.take (v.length - 2)) = vl at *
 generalize wv ((u.drop j).take (v.length - 2)) = lo at *
 generalize (4294967296 : Int) ^ (v.length - 2) = P at *
 generalize v.getD (v.length - 1) 0 = v1 at *
 generalize v.getD (v.length - 2) 0 = v2 at *
 generalize u.getD (j + v.length) 0 = u0 at *
 generalize u.getD (j + (v.length - 1)) 0 = u1 at *
 generalize u.getD (j + (v.length - 2)) 0 = u2 at *
 generalize wv (u.drop (j + v.length)) = X at *
 generalize wv (u.drop (j + (v.length - 1))) = X1 at *
 generalize wv (u.drop (j + (v.length - 2))) = X2 at *
 generalize wv (u.drop (j + (v.length + 1))) = Y at *
 have hX : X ≤ v1 := by
  have k1 : P * (4294967296 * (4294967296 * X)) < P * (4294967296 * (4294967296 * (v1 + 1))) := by
   have k2 : P * (4294967296 * (4294967296 * X)) ≤ T := by
    rw [d0, d1, d2]
    have : P * (4294967296 * (4294967296 * X)) ≤ P * (u2 + 4294967296 * (u1 + 4294967296 * X)) := Int.mul_le_mul_of_nonneg_left (by omega) (by omega)
    omega
   have k3 : 4294967296 * V ≤ P * (4294967296 * (4294967296 * (v1 + 1))) := by
    have k4 : P * (4294967296 * (v2 + 1 + 4294967296 * v1)) ≤ P * (4294967296 * (4294967296 * (v1 + 1))) := Int.mul_le_mul_of_nonneg_left (by omega) (by omega)
    have k5 : 4294967296 * V ≤ P * (4294967296 * (v2 + 1 + 4294967296 * v1)) := by
     have : P * (4294967296 * (v2 + 1 + 4294967296 * v1)) = 4294967296 * (P * (v2 + 4294967296 * v1)) + 4294967296 * P := by grind
     rw [this, vs]; omega
    omega
   omega
  have := mul_lt_cancel hp k1
  omega
 have hY : Y = 0 := by omega
 refine ⟨⟨?_, vs, hp, t1, t2, by omega, w1, w2, by omega, hv2, hT⟩, hY⟩
 rw [d0, d1, d2, d3, hY]
 grind
end Go.Proofs.YtnfmjlhkknndhaaGreat
/-
 Plain facts for the division of sizes: what the loops keep.
-/
namespace Go.Proofs.YtnfmjlhkknndhaaGreat
open Go Go.RowKit
structure DivS where
 k : Nat
 u : List Int
 q : List Int
structure GuS where
 g : Int
 r : Int
structure MsS where
 i : Nat
 u : List Int
 c : Int
 b : Int
structure KO (A : Int) (la : Nat) (v : List Int) (s : DivS) : Prop where
 lu : s.u.length = la + 1
 lq : s.q.length = la + 1 - v.length
 wu : Wd s.u
 wq : Wd s.q
 hk : s.k + v.length ≤ la + 1
 sum : A = wv (s.q.drop s.k) * 4294967296 ^ s.k * wv v + wv s.u
 lt : wv s.u < 4294967296 ^ s.k * wv v
structure KR (la : Nat) (v u : List Int) (j : Nat) : Prop where
 lu : u.length = la + 1
 wu : Wd u
 hj : j + v.length ≤ la
 lt : wv (u.drop j) < 4294967296 * wv v
theorem KO.round {A : Int} {la : Nat} {v : List Int} {s : DivS} (h : KO A la v s) {j : Nat} (hj : s.k = j + 1) : KR la v s.u j := by
 refine ⟨h.lu, h.wu, by have := h.hk; omega, ?_⟩
 have h1 := wv_take_drop s.u j
 have h2 := wv_take_lt h.wu j
 have h3 := h.lt
 rw [hj, Int.pow_succ] at h3
 have hp := pow_pos32 j
 refine mul_lt_cancel hp ?_
 rw [← Int.mul_assoc]
 omega
structure KG (v u : List Int) (j : Nat) (s : GuS) : Prop where
 g0 : 0 ≤ s.g
 r0 : 0 ≤ s.r ∧ s.r < 4294967296
 eq : s.g * v.getD (v.length - 1) 0 + s.r = u.getD (j + v.length) 0 * 4294967296 + u.getD (j + v.length - 1) 0
 ge : wv (u.drop j) < (s.g + 1) * wv v
structure KP (v u : List Int) (j : Nat) (g : Int) : Prop where
 g0 : 0 ≤ g ∧ g < 4294967296
 ge : wv (u.drop j) < (g + 1) * wv v
 le : g * wv v < wv (u.drop j) + wv v
section
variable {la : Nat} {v u : List Int} {j : Nat}
theorem KG.init (hv : KV v) (h : KR la v u j) {f : Int} (hf : f = u.getD (j + v.length) 0 * 4294967296 + u.getD (j + v.length - 1) 0) :
  KG v u j ⟨f / v.getD (v.length - 1) 0, f % v.getD (v.length - 1) 0⟩ := by
 have hn := (hv.nums h.wu j h.lt).1
 have h1 := hn.hv1
 have h2 := hn.h0
 have h3 := hn.h1
 subst hf
 refine ⟨Int.ediv_nonneg (by omega) (by omega), ⟨Int.emod_nonneg _ (by omega), by have := Int.emod_lt_of_pos (u.getD (j + v.length) 0 * 4294967296 + u.getD (j + v.length - 1) 0) (show 0 < v.getD (v.length - 1) 0 by omega); show _ % _ < _; omega⟩, ?_, hn.guess⟩
 show _ / _ * _ + _ % _ = _
 rw [Int.mul_comm]; exact Int.mul_ediv_add_emod _ _
theorem KG.bounds (hv : KV v) (h : KR la v u j) {s : GuS} (hs : KG v u j s) : s.g ≤ 4294967297 ∧ (0 ≤ u.getD (j + v.length) 0 ∧ u.getD (j + v.length) 0 < 4294967296) ∧ (0 ≤ u.getD (j + v.length - 1) 0 ∧ u.getD (j + v.length - 1) 0 < 4294967296) ∧ (0 ≤ u.getD (j + v.length - 2) 0 ∧ u.getD (j + v.length - 2) 0 < 4294967296)
  ∧ (2147483648 ≤ v.getD (v.length - 1) 0 ∧ v.getD (v.length - 1) 0 < 4294967296) ∧ (0 ≤ v.getD (v.length - 2) 0 ∧ v.getD (v.length - 2) 0 < 4294967296) := by
 have hn := (hv.nums h.wu j h.lt).1
 have h1 := hn.hv1
 have h2 := hn.h0
 have h3 := hn.h1
 refine ⟨?_, by omega, h3, hn.h2, h1, hn.hv2⟩
 have he := hs.eq
 have hr := hs.r0
 have hg := hs.g0
 rcases Int.lt_or_le 4294967297 s.g with q | q
 ·have : 4294967298 * v.getD (v.length - 1) 0 ≤ s.g * v.getD (v.length - 1) 0 := Int.mul_le_mul_of_nonneg_right (by omega) (by omega)
  omega
 ·exact q
theorem KG.down (hv : KV v) (h : KR la v u j) {s : GuS} (hs : KG v u j s)
  (hc : 4294967295 < s.g ∨ s.r * 4294967296 + u.getD (j + v.length - 2) 0 < s.g * v.getD (v.length - 2) 0) : wv (u.drop j) < s.g * wv v ∧ 1 ≤ s.g := by
 have hn := (hv.nums h.wu j h.lt).1
 have hg := hs.g0
 have h1 : wv (u.drop j) < s.g * wv v := by
  rcases hc with hc | hc
  ·exact hn.big (by omega)
  ·exact hn.dec hg hs.eq hc
 refine ⟨h1, ?_⟩
 rcases Int.lt_or_le 0 s.g with q | q
 ·omega
 ·have : s.g = 0 := by omega
  rw [this, Int.zero_mul] at h1
  have := wv_nonneg (h.wu.drop j)
  omega
theorem KG.step (hv : KV v) (h : KR la v u j) {s : GuS} (hs : KG v u j s)
  (hc : 4294967295 < s.g ∨ s.r * 4294967296 + u.getD (j + v.length - 2) 0 < s.g * v.getD (v.length - 2) 0)
  (hr : ¬ 4294967295 < s.r + v.getD (v.length - 1) 0) : KG v u j ⟨s.g - 1, s.r + v.getD (v.length - 1) 0⟩ := by
 have hd := hs.down hv h hc
 have hb := hs.bounds hv h
 have hr0 := hs.r0
 refine ⟨by show 0 ≤ s.g - 1; omega, by show 0 ≤ s.r + _ ∧ s.r + _ < _; omega, ?_, ?_⟩
 ·show (s.g - 1) * _ + (s.r + _) = _
  have := hs.eq
  rw [Int.sub_mul]; omega
 ·show _ < (s.g - 1 + 1) * _
  rw [Int.sub_add_cancel]; exact hd.1
theorem KG.stop (hv : KV v) (h : KR la v u j) {s : GuS} (hs : KG v u j s)
  (hc : 4294967295 < s.g ∨ s.r * 4294967296 + u.getD (j + v.length - 2) 0 < s.g * v.getD (v.length - 2) 0)
  (hr : 4294967295 < s.r + v.getD (v.length - 1) 0) : KP v u j (s.g - 1) := by
 have hn := (hv.nums h.wu j h.lt).1
 have hd := hs.down hv h hc
 have hb := hs.bounds hv h
 have he := hs.eq
 have h0 := hn.h0
 have hg : s.g - 1 < 4294967296 := by
  rcases Int.lt_or_le (s.g - 1) 4294967296 with q | q
  ·exact q
  ·have : 4294967296 * v.getD (v.length - 1) 0 ≤ (s.g - 1) * v.getD (v.length - 1) 0 := Int.mul_le_mul_of_nonneg_right q (by omega)
   rw [Int.sub_mul] at this
   omega
 refine ⟨by omega, by rw [Int.sub_add_cancel]; exact hd.1, ?_⟩
 refine hn.fin (r := s.r + v.getD (v.length - 1) 0) (by omega) hg (by rw [Int.sub_mul]; omega) ?_
 have : (s.g - 1) * v.getD (v.length - 2) 0 ≤ 4294967295 * v.getD (v.length - 2) 0 := Int.mul_le_mul_of_nonneg_right (by omega) hb.2.2.2.2.2.1
 omega
theorem KG.done (hv : KV v) (h : KR la v u j) {s : GuS} (hs : KG v u j s) (h1 : ¬ 4294967295 < s.g)
  (h2 : ¬ s.r * 4294967296 + u.getD (j + v.length - 2) 0 < s.g * v.getD (v.length - 2) 0) : KP v u j s.g :=
 ⟨⟨hs.g0, by omega⟩, hs.ge, (hv.nums h.wu j h.lt).1.fin hs.g0 (by omega) hs.eq (by omega)⟩
structure KM (v u : List Int) (j : Nat) (g : Int) (s : MsS) : Prop where
 hi : s.i ≤ v.length
 len : s.u.length = u.length
 wd : Wd s.u
 c0 : 0 ≤ s.c ∧ s.c < 4294967296
 b0 : 0 ≤ s.b ∧ s.b ≤ 1
 rest : s.u.drop (j + s.i) = u.drop (j + s.i)
 sum : wv (s.u.take (j + s.i)) - 4294967296 ^ (j + s.i) * (s.c + s.b) = wv (u.take (j + s.i)) - 4294967296 ^ j * (g * wv (v.take s.i))
theorem KM.init (hu : Wd u) (g : Int) : KM v u j g ⟨0, u, 0, 0⟩ :=
 ⟨Nat.zero_le _, rfl, hu, ⟨Int.le_refl _, by show (0 : Int) < 4294967296; omega⟩, ⟨Int.le_refl _, by show (0 : Int) ≤ 1; omega⟩, rfl, by simp [wv]⟩
theorem mulw2 {g x c : Int} (hg : 0 ≤ g ∧ g < 4294967296) (hx : 0 ≤ x ∧ x < 4294967296) (hc : 0 ≤ c ∧ c < 4294967296) : 0 ≤ g * x ∧ g * x < 18446744065119617026 ∧ 0 ≤ g * x + c ∧ g * x + c < 18446744069414584321 := by
 have h1 := Int.mul_nonneg hg.1 hx.1
 have h2 : g * x ≤ 4294967295 * 4294967295 := Int.mul_le_mul (by omega) (by omega) hx.1 (by omega)
 omega
theorem KM.step (hv : Wd v) {g : Int} (hg : 0 ≤ g ∧ g < 4294967296) {s : MsS} (hs : KM v u j g s) (hi : s.i < v.length) (hl : j + v.length < u.length) {t : Int} (ht : t = g * v.getD s.i 0 + s.c) :
  KM v u j g ⟨s.i + 1, s.u.set (s.i + j) ((s.u.getD (s.i + j) 0 - t % 4294967296 - s.b) % 4294967296), t / 4294967296, if s.u.getD (s.i + j) 0 < t % 4294967296 + s.b then 1 else 0⟩ := by
 have hx := hv.getD s.i
 have hm := mulw2 hg hx hs.c0
 have h1 := hs.wd.getD (j + s.i)
 have hb := hs.b0
 have hc := hs.c0
 have hlen := hs.len
 have ho : s.u.getD (j + s.i) 0 = u.getD (j + s.i) 0 := getD_of_drop hs.rest _ (Nat.le_refl _)
 rw [Nat.add_comm s.i j]
 refine ⟨by show s.i + 1 ≤ _; omega, by simp [hlen], hs.wd.set _ (by omega), ?_, ?_, ?_, ?_⟩
 ·show 0 ≤ t / 4294967296 ∧ t / 4294967296 < _; omega
 ·show 0 ≤ (if _ then (1 : Int) else 0) ∧ (if _ then (1 : Int) else 0) ≤ 1; split <;> omega
 ·show (s.u.set (j + s.i) _).drop (j + s.i + 1) = u.drop (j + s.i + 1)
  rw [drop_set]; exact drop_of_drop hs.rest
 ·show wv ((s.u.set (j + s.i) _).take (j + s.i + 1)) - 4294967296 ^ (j + s.i + 1) * (t / 4294967296 + if _ then 1 else 0) = wv (u.take (j + s.i + 1)) - 4294967296 ^ j * (g * wv (v.take (s.i + 1)))
  rw [wv_take_set _ (by omega), wv_take_succ, wv_take_succ, ← ho, Int.pow_succ]
  have h4 := hs.sum
  have h5 : s.u.getD (j + s.i) 0 - t = (s.u.getD (j + s.i) 0 - t % 4294967296 - s.b) % 4294967296 + s.b - 4294967296 * (t / 4294967296 + if s.u.getD (j + s.i) 0 < t % 4294967296 + s.b then 1 else 0) := by
   split <;> omega
  have h6 : (4294967296 : Int) ^ (j + s.i) = 4294967296 ^ j * 4294967296 ^ s.i := Int.pow_add ..
  generalize (s.u.getD (j + s.i) 0 - t % 4294967296 - s.b) % 4294967296 = d at *
  generalize (t / 4294967296 + if s.u.getD (j + s.i) 0 < t % 4294967296 + s.b then 1 else 0) = e at *
  generalize s.u.getD (j + s.i) 0 = o at *
  generalize v.getD s.i 0 = x at *
  generalize wv (s.u.take (j + s.i)) = a1 at *
  generalize wv (u.take (j + s.i)) = a2 at *
  generalize wv (v.take s.i) = a3 at *
  generalize (4294967296 : Int) ^ (j + s.i) = P at *
  generalize (4294967296 : Int) ^ j = Q at *
  generalize (4294967296 : Int) ^ s.i = R at *
  subst h6
  grind
structure KS (v u : List Int) (j : Nat) (g : Int) (s : MsS) : Prop where
 len : s.u.length = u.length
 wd : Wd s.u
 b0 : 0 ≤ s.b ∧ s.b ≤ 1
 high : s.u.drop (j + v.length + 1) = u.drop (j + v.length + 1)
 sum : wv s.u = wv u - 4294967296 ^ j * (g * wv v) + 4294967296 ^ (j + v.length + 1) * s.b
theorem KM.top {g : Int} {s : MsS} (hs : KM v u j g s) (hi : s.i = v.length) (hl : j + v.length < u.length) {x : Int} (hx : x = s.u.getD (j + v.length) 0) :
  KS v u j g ⟨0, s.u.set (j + v.length) ((x - s.c % 4294967296 - s.b) % 4294967296), 0, if x < s.c % 4294967296 + s.b then 1 else 0⟩ := by
 have h1 := hs.wd.getD (j + v.length)
 rw [← hx] at h1
 have hb := hs.b0
 have hc := hs.c0
 have hlen := hs.len
 have h4 := hs.sum
 have hr := hs.rest
 rw [hi] at h4 hr
 rw [List.take_length] at h4
 have ho : s.u.getD (j + v.length) 0 = u.getD (j + v.length) 0 := getD_of_drop hr _ (Nat.le_refl _)
 refine ⟨by simp [hlen], hs.wd.set _ (by omega), ?_, by show (s.u.set (j + v.length) _).drop (j + v.length + 1) = _; rw [drop_set]; exact drop_of_drop hr, ?_⟩
 ·show 0 ≤ (if _ then (1 : Int) else 0) ∧ (if _ then (1 : Int) else 0) ≤ 1; split <;> omega
 ·show wv (s.u.set (j + v.length) _) = _ - _ + _ * (if _ then 1 else 0)
  rw [wv_take_drop (s.u.set (j + v.length) _) (j + v.length + 1), wv_take_set _ (by omega), drop_set, drop_of_drop hr, Int.pow_succ]
  have h7 := wv_take_drop u (j + v.length + 1)
  rw [wv_take_succ, Int.pow_succ, ← ho, ← hx] at h7
  have h5 : (x - s.c % 4294967296 - s.b) % 4294967296 = x - (s.c + s.b) + 4294967296 * (if x < s.c % 4294967296 + s.b then 1 else 0) := by
   split <;> omega
  rw [h5, h7]
  generalize (if x < s.c % 4294967296 + s.b then (1 : Int) else 0) = e at *
  generalize wv (s.u.take (j + v.length)) = a1 at *
  generalize wv (u.take (j + v.length)) = a2 at *
  generalize wv (u.drop (j + v.length + 1)) = a4 at *
  generalize wv v = V at *
  generalize (4294967296 : Int) ^ (j + v.length) = P at *
  generalize (4294967296 : Int) ^ j = Q at *
  grind
structure KE (A : Int) (la : Nat) (v q : List Int) (j : Nat) (s : MsS) : Prop where
 hj : j + v.length ≤ la
 lq : q.length = la + 1 - v.length
 wq : Wd q
 lu : s.u.length = la + 1
 wu : Wd s.u
 c0 : 0 ≤ s.c ∧ s.c < 4294967296
 sum : A = wv (q.drop (j + 1)) * 4294967296 ^ (j + 1) * wv v + 4294967296 ^ j * (s.c * wv v) + wv s.u
 lt : wv s.u < 4294967296 ^ j * wv v
theorem KS.good {A : Int} {s : DivS} (h : KO A la v s) (hj : s.k = j + 1) {g : Int} (hp : KP v s.u j g) {t : MsS} (ht : KS v s.u j g t) (hb : t.b = 0) : KE A la v s.q j ⟨0, t.u, g, 0⟩ := by
 have hr := h.round hj
 have hs := h.sum
 have hsum := ht.sum
 rw [hb, Int.mul_zero, Int.add_zero] at hsum
 rw [hj] at hs
 refine ⟨hr.hj, h.lq, h.wq, by show t.u.length = _; rw [ht.len, h.lu], ht.wd, hp.g0, ?_, ?_⟩
 ·show A = _ + _ * (g * _) + wv t.u
  rw [hsum]; omega
 ·show wv t.u < _
  have h1 := wv_take_drop s.u j
  have h2 := wv_take_lt h.wu j
  have hP := pow_pos32 j
  have hge := hp.ge
  rw [hsum, h1]
  have h3 : (4294967296 : Int) ^ j * (wv (s.u.drop j) + 1) ≤ 4294967296 ^ j * ((g + 1) * wv v) := Int.mul_le_mul_of_nonneg_left (by omega) (by omega)
  rw [Int.add_mul, Int.one_mul, Int.mul_add, Int.mul_add] at h3
  omega
theorem KS.bad {s : MsS} {g : Int} (hv : KV v) (h : KR la v u j) (hp : KP v u j g) (hs : KS v u j g s) (hb : 0 < s.b) : s.b = 1 ∧ 1 ≤ g ∧ wv (u.drop j) < g * wv v := by
 have hb0 := hs.b0
 have hb1 : s.b = 1 := by omega
 have hsum := hs.sum
 rw [hb1, Int.mul_one] at hsum
 have h1 := wv_take_drop u j
 have h2 := wv_take_lt h.wu j
 have hP := pow_pos32 j
 have hlt := wv_lt hs.wd
 have hn := hv.nums h.wu j h.lt
 have hz : wv (u.drop j) < g * wv v := by
  rcases Int.lt_or_le (wv (u.drop j)) (g * wv v) with q | q
  ·exact q
  ·have h3 : (4294967296 : Int) ^ j * (g * wv v) ≤ 4294967296 ^ j * wv (u.drop j) := Int.mul_le_mul_of_nonneg_left q (by omega)
   have h4 := wv_take_drop s.u (j + v.length + 1)
   have h5 := wv_take_lt hs.wd (j + v.length + 1)
   rw [hs.high, hn.2, Int.mul_zero, Int.add_zero] at h4
   omega
 refine ⟨hb1, ?_, hz⟩
 rcases Int.lt_or_le 0 g with q | q
 ·omega
 ·have : g = 0 := by have := hp.g0; omega
  rw [this, Int.zero_mul] at hz
  have := wv_nonneg (h.wu.drop j)
  omega
structure KA (v u : List Int) (j : Nat) (s : MsS) : Prop where
 hi : s.i ≤ v.length
 len : s.u.length = u.length
 wd : Wd s.u
 c0 : 0 ≤ s.c ∧ s.c ≤ 1
 rest : s.u.drop (j + s.i) = u.drop (j + s.i)
 sum : wv (s.u.take (j + s.i)) + 4294967296 ^ (j + s.i) * s.c = wv (u.take (j + s.i)) + 4294967296 ^ j * wv (v.take s.i)
theorem KA.init (hu : Wd u) : KA v u j ⟨0, u, 0, 0⟩ :=
 ⟨Nat.zero_le _, rfl, hu, ⟨Int.le_refl _, by show (0 : Int) ≤ 1; omega⟩, rfl, by simp [wv]⟩
theorem KA.step (hv : Wd v) {s : MsS} (hs : KA v u j s) (hi : s.i < v.length) (hl : j + v.length < u.length) (b : Int) :
  KA v u j ⟨s.i + 1, s.u.set (s.i + j) ((s.u.getD (s.i + j) 0 + v.getD s.i 0 + s.c) % 4294967296), (s.u.getD (s.i + j) 0 + v.getD s.i 0 + s.c) / 4294967296, b⟩ := by
 have hx := hv.getD s.i
 have h1 := hs.wd.getD (j + s.i)
 have hc := hs.c0
 have hlen := hs.len
 have ho : s.u.getD (j + s.i) 0 = u.getD (j + s.i) 0 := getD_of_drop hs.rest _ (Nat.le_refl _)
 rw [Nat.add_comm s.i j]
 refine ⟨by show s.i + 1 ≤ _; omega, by simp [hlen], hs.wd.set _ (by omega), by show 0 ≤ _ / 4294967296 ∧ _ / 4294967296 ≤ (1 : Int); omega, ?_, ?_⟩
 ·show (s.u.set (j + s.i) _).drop (j + s.i + 1) = u.drop (j + s.i + 1)
  rw [drop_set]; exact drop_of_drop hs.rest
 ·show wv ((s.u.set (j + s.i) _).take (j + s.i + 1)) + 4294967296 ^ (j + s.i + 1) * (_ / 4294967296) = wv (u.take (j + s.i + 1)) + 4294967296 ^ j * wv (v.take (s.i + 1))
  rw [wv_take_set _ (by omega), wv_take_succ, wv_take_succ, ← ho, Int.pow_succ]
  have h4 := hs.sum
  have h5 := Int.mul_ediv_add_emod (s.u.getD (j + s.i) 0 + v.getD s.i 0 + s.c) 4294967296
  have h6 : (4294967296 : Int) ^ (j + s.i) = 4294967296 ^ j * 4294967296 ^ s.i := Int.pow_add ..
  generalize (s.u.getD (j + s.i) 0 + v.getD s.i 0 + s.c) % 4294967296 = d at *
  generalize (s.u.getD (j + s.i) 0 + v.getD s.i 0 + s.c) / 4294967296 = e at *
  generalize s.u.getD (j + s.i) 0 = o at *
  generalize v.getD s.i 0 = x at *
  generalize wv (s.u.take (j + s.i)) = a1 at *
  generalize wv (u.take (j + s.i)) = a2 at *
  generalize wv (v.take s.i) = a3 at *
  generalize (4294967296 : Int) ^ (j + s.i) = P at *
  generalize (4294967296 : Int) ^ j = Q at *
  generalize (4294967296 : Int) ^ s.i = R at *
  subst h6
  grind
theorem KS.back {A : Int} (hv : KV v) {s : DivS} (h : KO A la v s) (hj : s.k = j + 1) {g : Int} (hp : KP v s.u j g) {t : MsS} (ht : KS v s.u j g t) (hb : 0 < t.b) {r : MsS} (hr : KA v t.u j r) (hi : r.i = v.length)
  {x : Int} (hx : x = (r.u.getD (j + v.length) 0 + r.c) % 4294967296) : KE A la v s.q j ⟨0, r.u.set (j + v.length) x, g - 1, 0⟩ := by
 have hrd := h.round hj
 have hsum := ht.sum
 obtain ⟨hb1, hg1, hlt⟩ := ht.bad hv hrd hp hb
 rw [hb1, Int.mul_one] at hsum
 have hs := h.sum
 rw [hj] at hs
 have hc := hr.c0
 have h1 := hr.wd.getD (j + v.length)
 have hg := hp.g0
 have hrs := hr.sum
 have hrr := hr.rest
 rw [hi] at hrs hrr
 rw [List.take_length] at hrs
 have hlen : r.u.length = la + 1 := by rw [hr.len, ht.len, h.lu]
 have hjl := hrd.hj
 have ho : r.u.getD (j + v.length) 0 = t.u.getD (j + v.length) 0 := getD_of_drop hrr _ (Nat.le_refl _)
 have hval : ∃ e : Int, 0 ≤ e ∧ e ≤ 1 ∧ wv (r.u.set (j + v.length) x) + 4294967296 ^ (j + v.length + 1) * e = wv t.u + 4294967296 ^ j * wv v := by
  refine ⟨(r.u.getD (j + v.length) 0 + r.c) / 4294967296, by omega, by omega, ?_⟩
  rw [wv_take_drop (r.u.set (j + v.length) x) (j + v.length + 1), wv_take_set _ (by omega), drop_set, drop_of_drop hrr, Int.pow_succ]
  have h7 := wv_take_drop t.u (j + v.length + 1)
  rw [wv_take_succ, Int.pow_succ, ← ho] at h7
  have h5 := Int.mul_ediv_add_emod (r.u.getD (j + v.length) 0 + r.c) 4294967296
  rw [← hx] at h5
  rw [h7]
  generalize (r.u.getD (j + v.length) 0 + r.c) / 4294967296 = e at *
  generalize r.u.getD (j + v.length) 0 = o at *
  generalize wv (r.u.take (j + v.length)) = a1 at *
  generalize wv (t.u.take (j + v.length)) = a2 at *
  generalize wv (t.u.drop (j + v.length + 1)) = a4 at *
  generalize wv v = V at *
  generalize (4294967296 : Int) ^ (j + v.length) = P at *
  generalize (4294967296 : Int) ^ j = Q at *
  grind
 have hwx : Wd (r.u.set (j + v.length) x) := hr.wd.set _ (by omega)
 obtain ⟨e, he0, he1, he⟩ := hval
 have h3 := wv_take_drop s.u j
 have h4 := wv_take_lt h.wu j
 have hP := pow_pos32 j
 have hle := hp.le
 have b1 : (4294967296 : Int) ^ j * (g * wv v + 1) ≤ 4294967296 ^ j * (wv (s.u.drop j) + wv v) := Int.mul_le_mul_of_nonneg_left (by omega) (by omega)
 have b2 : (4294967296 : Int) ^ j * (wv (s.u.drop j) + 1) ≤ 4294967296 ^ j * (g * wv v) := Int.mul_le_mul_of_nonneg_left (by omega) (by omega)
 rw [Int.mul_add, Int.mul_add, Int.mul_one] at b1
 rw [Int.mul_add, Int.mul_one] at b2
 have hvn := wv_lt hv.wd
 have hjn : (4294967296 : Int) ^ j * wv v ≤ 4294967296 ^ j * 4294967296 ^ v.length := Int.mul_le_mul_of_nonneg_left (by omega) (by omega)
 rw [← Int.pow_add] at hjn
 have hQ : (4294967296 : Int) ^ (j + v.length + 1) = 4294967296 ^ (j + v.length) * 4294967296 := Int.pow_succ ..
 have hQ0 := pow_pos32 (j + v.length)
 have hn0 := wv_nonneg hwx
 have hnx : wv (r.u.set (j + v.length) x) < 4294967296 ^ (j + v.length + 1) := by
  have k1 := wv_take_drop (r.u.set (j + v.length) x) (j + v.length + 1)
  rw [drop_set, drop_of_drop hrr, ht.high, (hv.nums h.wu j hrd.lt).2, Int.mul_zero, Int.add_zero] at k1
  have k2 := wv_take_lt hwx (j + v.length + 1)
  omega
 have he2 : e = 1 := by
  rcases (show e = 0 ∨ e = 1 by omega) with q | q
  ·rw [q, Int.mul_zero, Int.add_zero] at he; omega
  ·exact q
 rw [he2, Int.mul_one] at he
 have hfin : wv (r.u.set (j + v.length) x) = wv s.u - 4294967296 ^ j * (g * wv v) + 4294967296 ^ j * wv v := by omega
 refine ⟨hrd.hj, h.lq, h.wq, by simp [hlen], hwx, by show 0 ≤ g - 1 ∧ g - 1 < _; omega, ?_, ?_⟩
 ·show A = _ + _ * ((g - 1) * _) + wv (r.u.set (j + v.length) x)
  rw [hfin, Int.sub_mul, Int.mul_sub, Int.one_mul]; omega
 ·show wv (r.u.set (j + v.length) x) < _
  rw [hfin]; omega
theorem KE.next {A : Int} {q : List Int} {s : MsS} (h : KE A la v q j s) : KO A la v ⟨j, s.u, q.set j s.c⟩ := by
 have h1 := h.hj
 have h2 := h.lq
 refine ⟨h.lu, by simp [h2], h.wu, h.wq.set _ h.c0, by show j + v.length ≤ la + 1; omega, ?_, h.lt⟩
 show A = wv ((q.set j s.c).drop j) * _ * _ + wv s.u
 rw [drop_cons (by simp; omega), drop_set, show (q.set j s.c).getD j 0 = s.c by simp [show j < q.length by omega]]
 have h3 := h.sum
 rw [Int.pow_succ] at h3
 simp only [wv]
 generalize wv (q.drop (j + 1)) = a at *
 generalize (4294967296 : Int) ^ j = P at *
 grind
theorem KO.start {A : Int} {u : List Int} (hl : v.length ≤ la) (hu : Wd u) (lu : u.length = la + 1) (hA : A = wv u) (hlt : wv u < 4294967296 ^ (la + 1 - v.length) * wv v) :
  KO A la v ⟨la + 1 - v.length, u, List.replicate (la + 1 - v.length) 0⟩ :=
 ⟨lu, by simp, hu, Wd.replicate _, by show la + 1 - v.length + v.length ≤ la + 1; omega, by
  show A = wv ((List.replicate (la + 1 - v.length) 0).drop (la + 1 - v.length)) * _ * _ + wv u
  rw [List.drop_of_length_le (by simp)]; simp [wv, hA], hlt⟩
theorem KO.fin {a b sh : Int} {s : DivS} (hv : KV v) (h : KO (a * 2 ^ sh.toNat) la v s) (hk : s.k = 0) (hb : 0 < b) (hV : wv v = b * 2 ^ sh.toNat) : wv s.q = a / b ∧ wv s.u / 2 ^ sh.toNat = a % b ∧ wv (s.u.take v.length) = wv s.u := by
 have h1 := h.sum
 have h2 := h.lt
 have h3 := wv_nonneg h.wu
 rw [hk] at h1 h2
 simp only [List.drop_zero, Int.pow_zero, Int.mul_one, Int.one_mul] at h1 h2
 have hP : (0 : Int) < 2 ^ sh.toNat := Int.pow_pos (by omega)
 have hr : wv s.u = (a - wv s.q * b) * 2 ^ sh.toNat := by rw [Int.sub_mul, Int.mul_assoc, ← hV]; omega
 have hr0 : 0 ≤ a - wv s.q * b := by
  rcases Int.lt_or_le (a - wv s.q * b) 0 with q | q
  ·have := Int.mul_lt_mul_of_pos_right q hP
   omega
  ·exact q
 have hr1 : a - wv s.q * b < b := by
  refine mul_lt_cancel hP ?_
  rw [Int.mul_comm, ← hr, Int.mul_comm, ← hV]; exact h2
 have hq : wv s.q = a / b := by
  have := Int.mul_ediv_add_emod a b
  have e : a = (a - wv s.q * b) + b * wv s.q := by rw [Int.mul_comm b]; omega
  rw [e, Int.add_mul_ediv_left _ _ (by omega), Int.ediv_eq_zero_of_lt hr0 hr1]; omega
 refine ⟨hq, ?_, ?_⟩
 ·rw [hr, Int.mul_ediv_cancel _ (by omega)]
  have := Int.mul_ediv_add_emod a b
  rw [Int.mul_comm, ← hq] at this; omega
 ·have k1 := wv_take_drop s.u v.length
  have k2 := wv_nonneg (h.wu.drop v.length)
  have k3 := wv_nonneg (h.wu.take v.length)
  have hpos := pow_pos32 v.length
  have hz : wv (s.u.drop v.length) = 0 := by
   rcases Int.lt_or_le 0 (wv (s.u.drop v.length)) with q | q
   ·have k4 : (4294967296 : Int) ^ v.length * 1 ≤ 4294967296 ^ v.length * wv (s.u.drop v.length) := Int.mul_le_mul_of_nonneg_left (by omega) (by omega)
    have hvl := wv_lt hv.wd
    omega
   ·omega
  rw [hz] at k1; omega
end
end Go.Proofs.YtnfmjlhkknndhaaGreat
/-
 Contracts of functions: division of sizes.
-/
namespace Go.Proofs.YtnfmjlhkknndhaaGreat
open Go Go.RowKit
def uOf (s : MS) : List Int := match s.bx with | ⟨_, .arr _ l⟩ :: _ => l | _ => []
def qOf (s : MS) : List Int := match s.bx with | _ :: ⟨_, .arr _ l⟩ :: _ => l | _ => []
def intOf : MV → Int | .int _ z => z | _ => 0
def jOf (s : MS) : Int := intOf (look 13 s.tm)
def gOf (s : MS) : Int := intOf (look 15 s.tm)
def tmD (la : Nat) (v : List Int) (sh j : Int) : List (Nat × MV) :=
 [(8, .int .i64 sh), (9, .ws v), (10, .int .i64 v.length), (11, .bs 0 0 (la + 1)), (12, .bs 1 0 (la + 1 - v.length)), (13, .int .i64 j)]
def bxD (u q : List Int) : List Box := [⟨false, .arr .u32 u⟩, ⟨false, .arr .u32 q⟩]
structure DivI where
 Aa : DivS → Prop
 IG : List Int → Int → GuS → Prop
 IP : List Int → Int → GuS → Prop
 IM : List Int → Int → Int → MsS → Prop
 IS : List Int → Int → Int → MsS → Prop
 IA : List Int → Int → Int → MsS → Prop
 IR : List Int → Int → MsS → Prop
def a_ndiv (la : Nat) (v : List Int) (sh : Int) (D : DivI) : Nat → MS → Option LoopAnn
 | 13, _ => some (.inv DivS D.Aa (fun s => ⟨250, tmD la v sh ((s.k : Int) - 1), bxD s.u s.q, 0⟩) (fun s => s.k))
 | 17, s0 => some (.inv GuS (D.IG (uOf s0) (jOf s0)) (fun s => ⟨250, tmD la v sh (jOf s0) ++ [(15, .int .u64 s.g), (16, .int .u64 s.r)], bxD (uOf s0) (qOf s0), 0⟩) (fun s => s.g.toNat))
 | 24, s0 => some (.inv MsS (D.IM (uOf s0) (jOf s0) (gOf s0)) (fun s => ⟨250, tmD la v sh (jOf s0) ++ [(15, .int .u64 (gOf s0)), (17, .int .u64 s.c), (18, .int .u32 s.b), (147, .ws v), (148, .int .i64 v.length), (149, .int .i64 s.i)], bxD s.u (qOf s0), 0⟩) (fun s => v.length - s.i))
 | 35, s0 => some (.inv MsS (D.IA (uOf s0) (jOf s0) (gOf s0)) (fun s => ⟨250, tmD la v sh (jOf s0) ++ [(15, .int .u64 (gOf s0)), (22, .int .u32 s.c), (203, .ws v), (204, .int .i64 v.length), (205, .int .i64 s.i)], bxD s.u (qOf s0), 0⟩) (fun s => v.length - s.i))
 | _, _ => none
def k_ndiv (la : Nat) (v : List Int) (sh : Int) (D : DivI) : Nat → MS → Option CutAnn
 | 21, s0 => some (.mk GuS (D.IP (uOf s0) (jOf s0)) (fun s => ⟨250, tmD la v sh (jOf s0) ++ [(15, .int .u64 s.g)], bxD (uOf s0) (qOf s0), 0⟩))
 | 30, s0 => some (.mk MsS (fun s => D.IM (uOf s0) (jOf s0) (gOf s0) s ∧ s.i = v.length) (fun s => ⟨250, tmD la v sh (jOf s0) ++ [(15, .int .u64 (gOf s0)), (17, .int .u64 s.c), (18, .int .u32 s.b)], bxD s.u (qOf s0), 0⟩))
 | 39, s0 => some (.mk MsS (fun s => D.IA (uOf s0) (jOf s0) (gOf s0) s ∧ s.i = v.length) (fun s => ⟨250, tmD la v sh (jOf s0) ++ [(15, .int .u64 (gOf s0)), (22, .int .u32 s.c)], bxD s.u (qOf s0), 0⟩))
 | 31, s0 => some (.mk MsS (D.IS (qOf s0) (jOf s0) (gOf s0)) (fun s => ⟨250, tmD la v sh (jOf s0) ++ [(15, .int .u64 (gOf s0)), (18, .int .u32 s.b)], bxD s.u (qOf s0), 0⟩))
 | 40, s0 => some (.mk MsS (D.IR (qOf s0) (jOf s0)) (fun s => ⟨250, tmD la v sh (jOf s0) ++ [(15, .int .u64 s.c)], bxD s.u (qOf s0), 0⟩))
 | 41, _ => some (.mk DivS (fun s => D.Aa s ∧ s.k = 0) (fun s => ⟨250, tmD la v sh (-1), bxD s.u s.q, 0⟩))
 | _, _ => none
def env2 (Γ : List (Ctr Tryz.prog)) (ann : Nat → MS → Option LoopAnn) (fz : Nat → List Nat) (cut : Nat → MS → Option CutAnn) : Env Tryz.prog := ⟨Γ, [], 37, ann, fz, cut⟩
def fz_ndiv : Nat → List Nat
 | 41 => [0, 1]
 | _ => []
def s_ndiv : FSpec
 | [.ws a, .ws b] => some (some (Cn a ∧ Cn b ∧ b ≠ [] ∧ a.length ≤ 1000000 ∧ b.length ≤ 1000000), .ret (.tup [.ws (limbs (wv a / wv b).toNat), .ws (limbs (wv a % wv b).toNat)]))
 | _ => none
theorem vc_ndiv (a b v : List Int) (sh : Int) (D : DivI) : ((limbs (Int.toNat (wv a)) = a ∧ limbs (Int.toNat (wv b)) = b ∧ List.length a ≤ 1099511627776 ∧ List.length b ≤ 1099511627776) ∧ bif decide (icmp (wv a) (wv b) < 0) then (Value.slice none (0 : Nat) (0 : Nat) = Value.slice none (0 : Nat) (0 : Nat) ∧ limbs (Int.toNat (wv a / wv b)) = []) ∧ a = limbs (Int.toNat (wv a % wv b)) ∧ True else bif (↑(List.length b) : Int) == 1 then ((0 : Int) ≤ 0 ∧ (0 : Int) < (↑(List.length b) : Int)) ∧ ((∀ (x : Int), x ∈ a → (0 : Int) ≤ x ∧ x < 4294967296) ∧ (0 : Int) < List.getD b (Int.toNat (0 : Int)) (0 : Int) ∧ List.getD b (Int.toNat (0 : Int)) (0 : Int) < 4294967296 ∧ List.length a ≤ 1000000000) ∧ ((0 : Nat) + 1 ≤ List.length [wv a % List.getD b (Int.toNat (0 : Int)) (0 : Int)] ∧ (∀ (x : Int), x ∈ List.take (1 : Nat) (List.drop (0 : Nat) [wv a % List.getD b (Int.toNat (0 : Int)) (0 : Int)]) → (0 : Int) ≤ x ∧ x < 4294967296) ∧ List.length (List.take (1 : Nat) (List.drop (0 : Nat) [wv a % List.getD b (Int.toNat (0 : Int)) (0 : Int)])) ≤ 1099511627776) ∧ limbs (Int.toNat (wv a / List.getD b (Int.toNat (0 : Int)) (0 : Int))) = limbs (Int.toNat (wv a / wv b)) ∧ limbs (Int.toNat (wv (List.take (1 : Nat) (List.drop (0 : Nat) [wv a % List.getD b (Int.toNat (0 : Int)) (0 : Int)])))) = limbs (Int.toNat (wv a % wv b)) ∧ True else ((0 : Int) ≤ IntKind.wrap IntKind.i64 ((↑(List.length b) : Int) - 1) ∧ IntKind.wrap IntKind.i64 ((↑(List.length b) : Int) - 1) < (↑(List.length b) : Int)) ∧ ((0 : Int) ≤ List.getD b (Int.toNat (IntKind.wrap IntKind.i64 ((↑(List.length b) : Int) - 1))) (0 : Int) ∧ List.getD b (Int.toNat (IntKind.wrap IntKind.i64 ((↑(List.length b) : Int) - 1))) (0 : Int) < 4294967296) ∧ ((∀ (x : Int), x ∈ b → (0 : Int) ≤ x ∧ x < 4294967296) ∧ (0 : Int) ≤ 32 - (↑(bl (Int.toNat (List.getD b (Int.toNat (IntKind.wrap IntKind.i64 ((↑(List.length b) : Int) - 1))) (0 : Int)))) : Int) ∧ (32 : Int) - (↑(bl (Int.toNat (List.getD b (Int.toNat (IntKind.wrap IntKind.i64 ((↑(List.length b) : Int) - 1))) (0 : Int)))) : Int) ≤ 1000000000 ∧ List.length b ≤ 1000000000) ∧ ((0 : Int) ≤ IntKind.wrap IntKind.i64 ((↑(List.length a) : Int) + 1) ∧ IntKind.wrap IntKind.i64 ((↑(List.length a) : Int) + 1) = IntKind.wrap IntKind.i64 ((↑(List.length a) : Int) + 1) ∧ (↑(4 : Nat) : Int) * IntKind.wrap IntKind.i64 ((↑(List.length a) : Int) + 1) ≤ 140737488355328) ∧ ((∀ (x : Int), x ∈ a → (0 : Int) ≤ x ∧ x < 4294967296) ∧ (0 : Int) ≤ 32 - (↑(bl (Int.toNat (List.getD b (Int.toNat (IntKind.wrap IntKind.i64 ((↑(List.length b) : Int) - 1))) (0 : Int)))) : Int) ∧ (32 : Int) - (↑(bl (Int.toNat (List.getD b (Int.toNat (IntKind.wrap IntKind.i64 ((↑(List.length b) : Int) - 1))) (0 : Int)))) : Int) ≤ 1000000000 ∧ List.length a ≤ 1000000000) ∧ (0 : Nat) + Int.toNat (IntKind.wrap IntKind.i64 ((↑(List.length a) : Int) + 1)) ≤ List.length (List.replicate (Int.toNat (IntKind.wrap IntKind.i64 ((↑(List.length a) : Int) + 1))) (0 : Int)) ∧ ((0 : Int) ≤ IntKind.wrap IntKind.i64 ((↑(Int.toNat (IntKind.wrap IntKind.i64 ((↑(List.length a) : Int) + 1))) : Int) - (↑(List.length (limbs (Int.toNat (wv b * 2 ^ Int.toNat ((32 : Int) - (↑(bl (Int.toNat (List.getD b (Int.toNat (IntKind.wrap IntKind.i64 ((↑(List.length b) : Int) - 1))) (0 : Int)))) : Int)))))) : Int)) ∧ IntKind.wrap IntKind.i64 ((↑(Int.toNat (IntKind.wrap IntKind.i64 ((↑(List.length a) : Int) + 1))) : Int) - (↑(List.length (limbs (Int.toNat (wv b * 2 ^ Int.toNat ((32 : Int) - (↑(bl (Int.toNat (List.getD b (Int.toNat (IntKind.wrap IntKind.i64 ((↑(List.length b) : Int) - 1))) (0 : Int)))) : Int)))))) : Int)) = IntKind.wrap IntKind.i64 ((↑(Int.toNat (IntKind.wrap IntKind.i64 ((↑(List.length a) : Int) + 1))) : Int) - (↑(List.length (limbs (Int.toNat (wv b * 2 ^ Int.toNat ((32 : Int) - (↑(bl (Int.toNat (List.getD b (Int.toNat (IntKind.wrap IntKind.i64 ((↑(List.length b) : Int) - 1))) (0 : Int)))) : Int)))))) : Int)) ∧ (↑(4 : Nat) : Int) * IntKind.wrap IntKind.i64 ((↑(Int.toNat (IntKind.wrap IntKind.i64 ((↑(List.length a) : Int) + 1))) : Int) - (↑(List.length (limbs (Int.toNat (wv b * 2 ^ Int.toNat ((32 : Int) - (↑(bl (Int.toNat (List.getD b (Int.toNat (IntKind.wrap IntKind.i64 ((↑(List.length b) : Int) - 1))) (0 : Int)))) : Int)))))) : Int)) ≤ 140737488355328) ∧ ((∃ i, D.1 i ∧ ((32 : Int) - (↑(bl (Int.toNat (List.getD b (Int.toNat (IntKind.wrap IntKind.i64 ((↑(List.length b) : Int) - 1))) (0 : Int)))) : Int) = sh ∧ limbs (Int.toNat (wv b * 2 ^ Int.toNat ((32 : Int) - (↑(bl (Int.toNat (List.getD b (Int.toNat (IntKind.wrap IntKind.i64 ((↑(List.length b) : Int) - 1))) (0 : Int)))) : Int)))) = v ∧ (↑(List.length (limbs (Int.toNat (wv b * 2 ^ Int.toNat ((32 : Int) - (↑(bl (Int.toNat (List.getD b (Int.toNat (IntKind.wrap IntKind.i64 ((↑(List.length b) : Int) - 1))) (0 : Int)))) : Int)))))) : Int) = (↑(List.length v) : Int) ∧ ((0 : Nat) = 0 ∧ Int.toNat (IntKind.wrap IntKind.i64 ((↑(List.length a) : Int) + 1)) = List.length a + 1) ∧ ((0 : Nat) = 0 ∧ Int.toNat (IntKind.wrap IntKind.i64 ((↑(Int.toNat (IntKind.wrap IntKind.i64 ((↑(List.length a) : Int) + 1))) : Int) - (↑(List.length (limbs (Int.toNat (wv b * 2 ^ Int.toNat ((32 : Int) - (↑(bl (Int.toNat (List.getD b (Int.toNat (IntKind.wrap IntKind.i64 ((↑(List.length b) : Int) - 1))) (0 : Int)))) : Int)))))) : Int))) = List.length a + 1 - List.length v) ∧ IntKind.wrap IntKind.i64 ((↑(Int.toNat (IntKind.wrap IntKind.i64 ((↑(Int.toNat (IntKind.wrap IntKind.i64 ((↑(List.length a) : Int) + 1))) : Int) - (↑(List.length (limbs (Int.toNat (wv b * 2 ^ Int.toNat ((32 : Int) - (↑(bl (Int.toNat (List.getD b (Int.toNat (IntKind.wrap IntKind.i64 ((↑(List.length b) : Int) - 1))) (0 : Int)))) : Int)))))) : Int)))) : Int) - 1) = (↑(DivS.k i) : Int) - 1 ∧ True) ∧ List.take (0 : Nat) (List.replicate (Int.toNat (IntKind.wrap IntKind.i64 ((↑(List.length a) : Int) + 1))) (0 : Int)) ++ List.take (Int.toNat (IntKind.wrap IntKind.i64 ((↑(List.length a) : Int) + 1))) (limbs (Int.toNat (wv a * 2 ^ Int.toNat ((32 : Int) - (↑(bl (Int.toNat (List.getD b (Int.toNat (IntKind.wrap IntKind.i64 ((↑(List.length b) : Int) - 1))) (0 : Int)))) : Int))))) ++ List.drop ((0 : Nat) + min (List.length (limbs (Int.toNat (wv a * 2 ^ Int.toNat ((32 : Int) - (↑(bl (Int.toNat (List.getD b (Int.toNat (IntKind.wrap IntKind.i64 ((↑(List.length b) : Int) - 1))) (0 : Int)))) : Int)))))) (Int.toNat (IntKind.wrap IntKind.i64 ((↑(List.length a) : Int) + 1)))) (List.replicate (Int.toNat (IntKind.wrap IntKind.i64 ((↑(List.length a) : Int) + 1))) (0 : Int)) = DivS.u i ∧ List.replicate (Int.toNat (IntKind.wrap IntKind.i64 ((↑(Int.toNat (IntKind.wrap IntKind.i64 ((↑(List.length a) : Int) + 1))) : Int) - (↑(List.length (limbs (Int.toNat (wv b * 2 ^ Int.toNat ((32 : Int) - (↑(bl (Int.toNat (List.getD b (Int.toNat (IntKind.wrap IntKind.i64 ((↑(List.length b) : Int) - 1))) (0 : Int)))) : Int)))))) : Int)))) (0 : Int) = DivS.q i ∧ True) ∧ ∀ (i : DivS), D.1 i → bif decide ((↑(DivS.k i) : Int) - 1 ≥ 0) then ((0 : Int) ≤ IntKind.wrap IntKind.i64 ((↑(DivS.k i) : Int) - 1 + (↑(List.length v) : Int)) ∧ IntKind.wrap IntKind.i64 ((↑(DivS.k i) : Int) - 1 + (↑(List.length v) : Int)) < (↑(List.length a + 1) : Int)) ∧ (0 : Nat) + Int.toNat (IntKind.wrap IntKind.i64 ((↑(DivS.k i) : Int) - 1 + (↑(List.length v) : Int))) < List.length (DivS.u i) ∧ (0 : Int) ≤ 32 ∧ ((0 : Int) ≤ IntKind.wrap IntKind.i64 (IntKind.wrap IntKind.i64 ((↑(DivS.k i) : Int) - 1 + (↑(List.length v) : Int)) - 1) ∧ IntKind.wrap IntKind.i64 (IntKind.wrap IntKind.i64 ((↑(DivS.k i) : Int) - 1 + (↑(List.length v) : Int)) - 1) < (↑(List.length a + 1) : Int)) ∧ (0 : Nat) + Int.toNat (IntKind.wrap IntKind.i64 (IntKind.wrap IntKind.i64 ((↑(DivS.k i) : Int) - 1 + (↑(List.length v) : Int)) - 1)) < List.length (DivS.u i) ∧ ((0 : Int) ≤ IntKind.wrap IntKind.i64 ((↑(List.length v) : Int) - 1) ∧ IntKind.wrap IntKind.i64 ((↑(List.length v) : Int) - 1) < (↑(List.length v) : Int)) ∧ (IntKind.wrap IntKind.u64 (List.getD v (Int.toNat (IntKind.wrap IntKind.i64 ((↑(List.length v) : Int) - 1))) (0 : Int)) = 0 → False) ∧ ((0 : Int) ≤ IntKind.wrap IntKind.i64 ((↑(List.length v) : Int) - 1) ∧ IntKind.wrap IntKind.i64 ((↑(List.length v) : Int) - 1) < (↑(List.length v) : Int)) ∧ (IntKind.wrap IntKind.u64 (List.getD v (Int.toNat (IntKind.wrap IntKind.i64 ((↑(List.length v) : Int) - 1))) (0 : Int)) = 0 → False) ∧ ((∃ i_1, D.2 (DivS.u i) ((↑(DivS.k i) : Int) - 1) i_1 ∧ (sh = sh ∧ v = v ∧ (↑(List.length v) : Int) = (↑(List.length v) : Int) ∧ ((0 : Nat) = 0 ∧ List.length a + 1 = List.length a + 1) ∧ ((0 : Nat) = 0 ∧ List.length a + 1 - List.length v = List.length a + 1 - List.length v) ∧ (↑(DivS.k i) : Int) - 1 = (↑(DivS.k i) : Int) - 1 ∧ IntKind.wrap IntKind.u64 (Int.tdiv (IntKind.wrap IntKind.u64 (↑(BitVec.toNat (BitVec.ofInt (IntKind.bits IntKind.u64) (IntKind.wrap IntKind.u64 (IntKind.wrap IntKind.u64 (List.getD (DivS.u i) ((0 : Nat) + Int.toNat (IntKind.wrap IntKind.i64 ((↑(DivS.k i) : Int) - 1 + (↑(List.length v) : Int)))) (0 : Int)) * 2 ^ min (Int.toNat (32 : Int)) (IntKind.bits IntKind.u64))) ||| BitVec.ofInt (IntKind.bits IntKind.u64) (IntKind.wrap IntKind.u64 (List.getD (DivS.u i) ((0 : Nat) + Int.toNat (IntKind.wrap IntKind.i64 (IntKind.wrap IntKind.i64 ((↑(DivS.k i) : Int) - 1 + (↑(List.length v) : Int)) - 1))) (0 : Int))))) : Int)) (IntKind.wrap IntKind.u64 (List.getD v (Int.toNat (IntKind.wrap IntKind.i64 ((↑(List.length v) : Int) - 1))) (0 : Int)))) = GuS.g i_1 ∧ Int.tmod (IntKind.wrap IntKind.u64 (↑(BitVec.toNat (BitVec.ofInt (IntKind.bits IntKind.u64) (IntKind.wrap IntKind.u64 (IntKind.wrap IntKind.u64 (List.getD (DivS.u i) ((0 : Nat) + Int.toNat (IntKind.wrap IntKind.i64 ((↑(DivS.k i) : Int) - 1 + (↑(List.length v) : Int)))) (0 : Int)) * 2 ^ min (Int.toNat (32 : Int)) (IntKind.bits IntKind.u64))) ||| BitVec.ofInt (IntKind.bits IntKind.u64) (IntKind.wrap IntKind.u64 (List.getD (DivS.u i) ((0 : Nat) + Int.toNat (IntKind.wrap IntKind.i64 (IntKind.wrap IntKind.i64 ((↑(DivS.k i) : Int) - 1 + (↑(List.length v) : Int)) - 1))) (0 : Int))))) : Int)) (IntKind.wrap IntKind.u64 (List.getD v (Int.toNat (IntKind.wrap IntKind.i64 ((↑(List.length v) : Int) - 1))) (0 : Int))) = GuS.r i_1 ∧ True) ∧ DivS.u i = DivS.u i ∧ DivS.q i = DivS.q i ∧ True) ∧ ∀ (i_1 : GuS), D.2 (DivS.u i) ((↑(DivS.k i) : Int) - 1) i_1 → bif decide (GuS.g i_1 > 4294967295) then ((0 : Int) ≤ IntKind.wrap IntKind.i64 ((↑(List.length v) : Int) - 1) ∧ IntKind.wrap IntKind.i64 ((↑(List.length v) : Int) - 1) < (↑(List.length v) : Int)) ∧ bif decide (IntKind.wrap IntKind.u64 (GuS.r i_1 + IntKind.wrap IntKind.u64 (List.getD v (Int.toNat (IntKind.wrap IntKind.i64 ((↑(List.length v) : Int) - 1))) (0 : Int))) > 4294967295) then ∃ i_2, D.3 (DivS.u i) ((↑(DivS.k i) : Int) - 1) i_2 ∧ (sh = sh ∧ v = v ∧ (↑(List.length v) : Int) = (↑(List.length v) : Int) ∧ ((0 : Nat) = 0 ∧ List.length a + 1 = List.length a + 1) ∧ ((0 : Nat) = 0 ∧ List.length a + 1 - List.length v = List.length a + 1 - List.length v) ∧ (↑(DivS.k i) : Int) - 1 = (↑(DivS.k i) : Int) - 1 ∧ IntKind.wrap IntKind.u64 (GuS.g i_1 - 1) = GuS.g i_2 ∧ True) ∧ DivS.u i = DivS.u i ∧ DivS.q i = DivS.q i ∧ True else ∃ j, D.2 (DivS.u i) ((↑(DivS.k i) : Int) - 1) j ∧ ((sh = sh ∧ v = v ∧ (↑(List.length v) : Int) = (↑(List.length v) : Int) ∧ ((0 : Nat) = 0 ∧ List.length a + 1 = List.length a + 1) ∧ ((0 : Nat) = 0 ∧ List.length a + 1 - List.length v = List.length a + 1 - List.length v) ∧ (↑(DivS.k i) : Int) - 1 = (↑(DivS.k i) : Int) - 1 ∧ IntKind.wrap IntKind.u64 (GuS.g i_1 - 1) = GuS.g j ∧ IntKind.wrap IntKind.u64 (GuS.r i_1 + IntKind.wrap IntKind.u64 (List.getD v (Int.toNat (IntKind.wrap IntKind.i64 ((↑(List.length v) : Int) - 1))) (0 : Int))) = GuS.r j ∧ True) ∧ DivS.u i = DivS.u i ∧ DivS.q i = DivS.q i ∧ True) ∧ Int.toNat (GuS.g j) < Int.toNat (GuS.g i_1) else ((0 : Int) ≤ IntKind.wrap IntKind.i64 ((↑(List.length v) : Int) - 2) ∧ IntKind.wrap IntKind.i64 ((↑(List.length v) : Int) - 2) < (↑(List.length v) : Int)) ∧ (0 : Int) ≤ 32 ∧ ((0 : Int) ≤ IntKind.wrap IntKind.i64 (IntKind.wrap IntKind.i64 ((↑(DivS.k i) : Int) - 1 + (↑(List.length v) : Int)) - 2) ∧ IntKind.wrap IntKind.i64 (IntKind.wrap IntKind.i64 ((↑(DivS.k i) : Int) - 1 + (↑(List.length v) : Int)) - 2) < (↑(List.length a + 1) : Int)) ∧ (0 : Nat) + Int.toNat (IntKind.wrap IntKind.i64 (IntKind.wrap IntKind.i64 ((↑(DivS.k i) : Int) - 1 + (↑(List.length v) : Int)) - 2)) < List.length (DivS.u i) ∧ bif decide (IntKind.wrap IntKind.u64 (GuS.g i_1 * IntKind.wrap IntKind.u64 (List.getD v (Int.toNat (IntKind.wrap IntKind.i64 ((↑(List.length v) : Int) - 2))) (0 : Int))) > IntKind.wrap IntKind.u64 (↑(BitVec.toNat (BitVec.ofInt (IntKind.bits IntKind.u64) (IntKind.wrap IntKind.u64 (GuS.r i_1 * 2 ^ min (Int.toNat (32 : Int)) (IntKind.bits IntKind.u64))) ||| BitVec.ofInt (IntKind.bits IntKind.u64) (IntKind.wrap IntKind.u64 (List.getD (DivS.u i) ((0 : Nat) + Int.toNat (IntKind.wrap IntKind.i64 (IntKind.wrap IntKind.i64 ((↑(DivS.k i) : Int) - 1 + (↑(List.length v) : Int)) - 2))) (0 : Int))))) : Int)) then ((0 : Int) ≤ IntKind.wrap IntKind.i64 ((↑(List.length v) : Int) - 1) ∧ IntKind.wrap IntKind.i64 ((↑(List.length v) : Int) - 1) < (↑(List.length v) : Int)) ∧ bif decide (IntKind.wrap IntKind.u64 (GuS.r i_1 + IntKind.wrap IntKind.u64 (List.getD v (Int.toNat (IntKind.wrap IntKind.i64 ((↑(List.length v) : Int) - 1))) (0 : Int))) > 4294967295) then ∃ i_2, D.3 (DivS.u i) ((↑(DivS.k i) : Int) - 1) i_2 ∧ (sh = sh ∧ v = v ∧ (↑(List.length v) : Int) = (↑(List.length v) : Int) ∧ ((0 : Nat) = 0 ∧ List.length a + 1 = List.length a + 1) ∧ ((0 : Nat) = 0 ∧ List.length a + 1 - List.length v = List.length a + 1 - List.length v) ∧ (↑(DivS.k i) : Int) - 1 = (↑(DivS.k i) : Int) - 1 ∧ IntKind.wrap IntKind.u64 (GuS.g i_1 - 1) = GuS.g i_2 ∧ True) ∧ DivS.u i = DivS.u i ∧ DivS.q i = DivS.q i ∧ True else ∃ j, D.2 (DivS.u i) ((↑(DivS.k i) : Int) - 1) j ∧ ((sh = sh ∧ v = v ∧ (↑(List.length v) : Int) = (↑(List.length v) : Int) ∧ ((0 : Nat) = 0 ∧ List.length a + 1 = List.length a + 1) ∧ ((0 : Nat) = 0 ∧ List.length a + 1 - List.length v = List.length a + 1 - List.length v) ∧ (↑(DivS.k i) : Int) - 1 = (↑(DivS.k i) : Int) - 1 ∧ IntKind.wrap IntKind.u64 (GuS.g i_1 - 1) = GuS.g j ∧ IntKind.wrap IntKind.u64 (GuS.r i_1 + IntKind.wrap IntKind.u64 (List.getD v (Int.toNat (IntKind.wrap IntKind.i64 ((↑(List.length v) : Int) - 1))) (0 : Int))) = GuS.r j ∧ True) ∧ DivS.u i = DivS.u i ∧ DivS.q i = DivS.q i ∧ True) ∧ Int.toNat (GuS.g j) < Int.toNat (GuS.g i_1) else ∃ i_2, D.3 (DivS.u i) ((↑(DivS.k i) : Int) - 1) i_2 ∧ (sh = sh ∧ v = v ∧ (↑(List.length v) : Int) = (↑(List.length v) : Int) ∧ ((0 : Nat) = 0 ∧ List.length a + 1 = List.length a + 1) ∧ ((0 : Nat) = 0 ∧ List.length a + 1 - List.length v = List.length a + 1 - List.length v) ∧ (↑(DivS.k i) : Int) - 1 = (↑(DivS.k i) : Int) - 1 ∧ GuS.g i_1 = GuS.g i_2 ∧ True) ∧ DivS.u i = DivS.u i ∧ DivS.q i = DivS.q i ∧ True) ∧ ∀ (i_1 : GuS), D.3 (DivS.u i) ((↑(DivS.k i) : Int) - 1) i_1 → ((∃ i_2, D.4 (DivS.u i) ((↑(DivS.k i) : Int) - 1) (GuS.g i_1) i_2 ∧ (sh = sh ∧ v = v ∧ (↑(List.length v) : Int) = (↑(List.length v) : Int) ∧ ((0 : Nat) = 0 ∧ List.length a + 1 = List.length a + 1) ∧ ((0 : Nat) = 0 ∧ List.length a + 1 - List.length v = List.length a + 1 - List.length v) ∧ (↑(DivS.k i) : Int) - 1 = (↑(DivS.k i) : Int) - 1 ∧ GuS.g i_1 = GuS.g i_1 ∧ (0 : Int) = MsS.c i_2 ∧ (0 : Int) = MsS.b i_2 ∧ v = v ∧ (↑(List.length v) : Int) = (↑(List.length v) : Int) ∧ (0 : Int) = (↑(MsS.i i_2) : Int) ∧ True) ∧ DivS.u i = MsS.u i_2 ∧ DivS.q i = DivS.q i ∧ True) ∧ ∀ (i_2 : MsS), D.4 (DivS.u i) ((↑(DivS.k i) : Int) - 1) (GuS.g i_1) i_2 → bif decide ((↑(MsS.i i_2) : Int) < (↑(List.length v) : Int)) then ((0 : Int) ≤ (↑(MsS.i i_2) : Int) ∧ (↑(MsS.i i_2) : Int) < (↑(List.length v) : Int)) ∧ (0 : Int) ≤ 32 ∧ ((0 : Int) ≤ IntKind.wrap IntKind.i64 ((↑(MsS.i i_2) : Int) + ((↑(DivS.k i) : Int) - 1)) ∧ IntKind.wrap IntKind.i64 ((↑(MsS.i i_2) : Int) + ((↑(DivS.k i) : Int) - 1)) < (↑(List.length a + 1) : Int)) ∧ (0 : Nat) + Int.toNat (IntKind.wrap IntKind.i64 ((↑(MsS.i i_2) : Int) + ((↑(DivS.k i) : Int) - 1))) < List.length (MsS.u i_2) ∧ ((0 : Int) ≤ List.getD (MsS.u i_2) ((0 : Nat) + Int.toNat (IntKind.wrap IntKind.i64 ((↑(MsS.i i_2) : Int) + ((↑(DivS.k i) : Int) - 1)))) (0 : Int) ∧ List.getD (MsS.u i_2) ((0 : Nat) + Int.toNat (IntKind.wrap IntKind.i64 ((↑(MsS.i i_2) : Int) + ((↑(DivS.k i) : Int) - 1)))) (0 : Int) < 4294967296 ∧ (0 : Int) ≤ IntKind.wrap IntKind.u32 (IntKind.wrap IntKind.u64 (IntKind.wrap IntKind.u64 (GuS.g i_1 * IntKind.wrap IntKind.u64 (List.getD v (Int.toNat (↑(MsS.i i_2) : Int)) (0 : Int))) + MsS.c i_2)) ∧ IntKind.wrap IntKind.u32 (IntKind.wrap IntKind.u64 (IntKind.wrap IntKind.u64 (GuS.g i_1 * IntKind.wrap IntKind.u64 (List.getD v (Int.toNat (↑(MsS.i i_2) : Int)) (0 : Int))) + MsS.c i_2)) < 4294967296 ∧ (0 : Int) ≤ MsS.b i_2 ∧ MsS.b i_2 ≤ 1) ∧ ((0 : Int) ≤ IntKind.wrap IntKind.i64 ((↑(MsS.i i_2) : Int) + ((↑(DivS.k i) : Int) - 1)) ∧ IntKind.wrap IntKind.i64 ((↑(MsS.i i_2) : Int) + ((↑(DivS.k i) : Int) - 1)) < (↑(List.length a + 1) : Int)) ∧ (0 : Nat) + Int.toNat (IntKind.wrap IntKind.i64 ((↑(MsS.i i_2) : Int) + ((↑(DivS.k i) : Int) - 1))) < List.length (MsS.u i_2) ∧ ∃ j, D.4 (DivS.u i) ((↑(DivS.k i) : Int) - 1) (GuS.g i_1) j ∧ ((sh = sh ∧ v = v ∧ (↑(List.length v) : Int) = (↑(List.length v) : Int) ∧ ((0 : Nat) = 0 ∧ List.length a + 1 = List.length a + 1) ∧ ((0 : Nat) = 0 ∧ List.length a + 1 - List.length v = List.length a + 1 - List.length v) ∧ (↑(DivS.k i) : Int) - 1 = (↑(DivS.k i) : Int) - 1 ∧ GuS.g i_1 = GuS.g i_1 ∧ Int.fdiv (IntKind.wrap IntKind.u64 (IntKind.wrap IntKind.u64 (GuS.g i_1 * IntKind.wrap IntKind.u64 (List.getD v (Int.toNat (↑(MsS.i i_2) : Int)) (0 : Int))) + MsS.c i_2)) ((2 : Int) ^ min (Int.toNat (32 : Int)) (IntKind.bits IntKind.u64)) = MsS.c j ∧ (if List.getD (MsS.u i_2) ((0 : Nat) + Int.toNat (IntKind.wrap IntKind.i64 ((↑(MsS.i i_2) : Int) + ((↑(DivS.k i) : Int) - 1)))) (0 : Int) < IntKind.wrap IntKind.u32 (IntKind.wrap IntKind.u64 (IntKind.wrap IntKind.u64 (GuS.g i_1 * IntKind.wrap IntKind.u64 (List.getD v (Int.toNat (↑(MsS.i i_2) : Int)) (0 : Int))) + MsS.c i_2)) + MsS.b i_2 then (1 : Int) else (0 : Int)) = MsS.b j ∧ v = v ∧ (↑(List.length v) : Int) = (↑(List.length v) : Int) ∧ IntKind.wrap IntKind.i64 ((↑(MsS.i i_2) : Int) + 1) = (↑(MsS.i j) : Int) ∧ True) ∧ List.set (MsS.u i_2) ((0 : Nat) + Int.toNat (IntKind.wrap IntKind.i64 ((↑(MsS.i i_2) : Int) + ((↑(DivS.k i) : Int) - 1)))) ((List.getD (MsS.u i_2) ((0 : Nat) + Int.toNat (IntKind.wrap IntKind.i64 ((↑(MsS.i i_2) : Int) + ((↑(DivS.k i) : Int) - 1)))) (0 : Int) - IntKind.wrap IntKind.u32 (IntKind.wrap IntKind.u64 (IntKind.wrap IntKind.u64 (GuS.g i_1 * IntKind.wrap IntKind.u64 (List.getD v (Int.toNat (↑(MsS.i i_2) : Int)) (0 : Int))) + MsS.c i_2)) - MsS.b i_2) % 4294967296) = MsS.u j ∧ DivS.q i = DivS.q i ∧ True) ∧ List.length v - MsS.i j < List.length v - MsS.i i_2 else ∃ i_3, (D.4 (DivS.u i) ((↑(DivS.k i) : Int) - 1) (GuS.g i_1) i_3 ∧ MsS.i i_3 = List.length v) ∧ (sh = sh ∧ v = v ∧ (↑(List.length v) : Int) = (↑(List.length v) : Int) ∧ ((0 : Nat) = 0 ∧ List.length a + 1 = List.length a + 1) ∧ ((0 : Nat) = 0 ∧ List.length a + 1 - List.length v = List.length a + 1 - List.length v) ∧ (↑(DivS.k i) : Int) - 1 = (↑(DivS.k i) : Int) - 1 ∧ GuS.g i_1 = GuS.g i_1 ∧ MsS.c i_2 = MsS.c i_3 ∧ MsS.b i_2 = MsS.b i_3 ∧ True) ∧ MsS.u i_2 = MsS.u i_3 ∧ DivS.q i = DivS.q i ∧ True) ∧ ∀ (i_2 : MsS), D.4 (DivS.u i) ((↑(DivS.k i) : Int) - 1) (GuS.g i_1) i_2 ∧ MsS.i i_2 = List.length v → ((((0 : Int) ≤ IntKind.wrap IntKind.i64 ((↑(DivS.k i) : Int) - 1 + (↑(List.length v) : Int)) ∧ IntKind.wrap IntKind.i64 ((↑(DivS.k i) : Int) - 1 + (↑(List.length v) : Int)) < (↑(List.length a + 1) : Int)) ∧ (0 : Nat) + Int.toNat (IntKind.wrap IntKind.i64 ((↑(DivS.k i) : Int) - 1 + (↑(List.length v) : Int))) < List.length (MsS.u i_2) ∧ ((0 : Int) ≤ List.getD (MsS.u i_2) ((0 : Nat) + Int.toNat (IntKind.wrap IntKind.i64 ((↑(DivS.k i) : Int) - 1 + (↑(List.length v) : Int)))) (0 : Int) ∧ List.getD (MsS.u i_2) ((0 : Nat) + Int.toNat (IntKind.wrap IntKind.i64 ((↑(DivS.k i) : Int) - 1 + (↑(List.length v) : Int)))) (0 : Int) < 4294967296 ∧ (0 : Int) ≤ IntKind.wrap IntKind.u32 (MsS.c i_2) ∧ IntKind.wrap IntKind.u32 (MsS.c i_2) < 4294967296 ∧ (0 : Int) ≤ MsS.b i_2 ∧ MsS.b i_2 ≤ 1) ∧ ((0 : Int) ≤ IntKind.wrap IntKind.i64 ((↑(DivS.k i) : Int) - 1 + (↑(List.length v) : Int)) ∧ IntKind.wrap IntKind.i64 ((↑(DivS.k i) : Int) - 1 + (↑(List.length v) : Int)) < (↑(List.length a + 1) : Int)) ∧ (0 : Nat) + Int.toNat (IntKind.wrap IntKind.i64 ((↑(DivS.k i) : Int) - 1 + (↑(List.length v) : Int))) < List.length (MsS.u i_2) ∧ ∃ i_3, D.5 (DivS.q i) ((↑(DivS.k i) : Int) - 1) (GuS.g i_1) i_3 ∧ (sh = sh ∧ v = v ∧ (↑(List.length v) : Int) = (↑(List.length v) : Int) ∧ ((0 : Nat) = 0 ∧ List.length a + 1 = List.length a + 1) ∧ ((0 : Nat) = 0 ∧ List.length a + 1 - List.length v = List.length a + 1 - List.length v) ∧ (↑(DivS.k i) : Int) - 1 = (↑(DivS.k i) : Int) - 1 ∧ GuS.g i_1 = GuS.g i_1 ∧ (if List.getD (MsS.u i_2) ((0 : Nat) + Int.toNat (IntKind.wrap IntKind.i64 ((↑(DivS.k i) : Int) - 1 + (↑(List.length v) : Int)))) (0 : Int) < IntKind.wrap IntKind.u32 (MsS.c i_2) + MsS.b i_2 then (1 : Int) else (0 : Int)) = MsS.b i_3 ∧ True) ∧ List.set (MsS.u i_2) ((0 : Nat) + Int.toNat (IntKind.wrap IntKind.i64 ((↑(DivS.k i) : Int) - 1 + (↑(List.length v) : Int)))) ((List.getD (MsS.u i_2) ((0 : Nat) + Int.toNat (IntKind.wrap IntKind.i64 ((↑(DivS.k i) : Int) - 1 + (↑(List.length v) : Int)))) (0 : Int) - IntKind.wrap IntKind.u32 (MsS.c i_2) - MsS.b i_2) % 4294967296) = MsS.u i_3 ∧ DivS.q i = DivS.q i ∧ True) ∧ ∀ (i_3 : MsS), D.5 (DivS.q i) ((↑(DivS.k i) : Int) - 1) (GuS.g i_1) i_3 → bif decide (MsS.b i_3 > 0) then ((∃ i_4, D.6 (MsS.u i_3) ((↑(DivS.k i) : Int) - 1) (IntKind.wrap IntKind.u64 (GuS.g i_1 - 1)) i_4 ∧ (sh = sh ∧ v = v ∧ (↑(List.length v) : Int) = (↑(List.length v) : Int) ∧ ((0 : Nat) = 0 ∧ List.length a + 1 = List.length a + 1) ∧ ((0 : Nat) = 0 ∧ List.length a + 1 - List.length v = List.length a + 1 - List.length v) ∧ (↑(DivS.k i) : Int) - 1 = (↑(DivS.k i) : Int) - 1 ∧ IntKind.wrap IntKind.u64 (GuS.g i_1 - 1) = IntKind.wrap IntKind.u64 (GuS.g i_1 - 1) ∧ (0 : Int) = MsS.c i_4 ∧ v = v ∧ (↑(List.length v) : Int) = (↑(List.length v) : Int) ∧ (0 : Int) = (↑(MsS.i i_4) : Int) ∧ True) ∧ MsS.u i_3 = MsS.u i_4 ∧ DivS.q i = DivS.q i ∧ True) ∧ ∀ (i_4 : MsS), D.6 (MsS.u i_3) ((↑(DivS.k i) : Int) - 1) (IntKind.wrap IntKind.u64 (GuS.g i_1 - 1)) i_4 → bif decide ((↑(MsS.i i_4) : Int) < (↑(List.length v) : Int)) then ((0 : Int) ≤ (↑(MsS.i i_4) : Int) ∧ (↑(MsS.i i_4) : Int) < (↑(List.length v) : Int)) ∧ ((0 : Int) ≤ IntKind.wrap IntKind.i64 ((↑(MsS.i i_4) : Int) + ((↑(DivS.k i) : Int) - 1)) ∧ IntKind.wrap IntKind.i64 ((↑(MsS.i i_4) : Int) + ((↑(DivS.k i) : Int) - 1)) < (↑(List.length a + 1) : Int)) ∧ (0 : Nat) + Int.toNat (IntKind.wrap IntKind.i64 ((↑(MsS.i i_4) : Int) + ((↑(DivS.k i) : Int) - 1))) < List.length (MsS.u i_4) ∧ ((0 : Int) ≤ List.getD (MsS.u i_4) ((0 : Nat) + Int.toNat (IntKind.wrap IntKind.i64 ((↑(MsS.i i_4) : Int) + ((↑(DivS.k i) : Int) - 1)))) (0 : Int) ∧ List.getD (MsS.u i_4) ((0 : Nat) + Int.toNat (IntKind.wrap IntKind.i64 ((↑(MsS.i i_4) : Int) + ((↑(DivS.k i) : Int) - 1)))) (0 : Int) < 4294967296 ∧ (0 : Int) ≤ List.getD v (Int.toNat (↑(MsS.i i_4) : Int)) (0 : Int) ∧ List.getD v (Int.toNat (↑(MsS.i i_4) : Int)) (0 : Int) < 4294967296 ∧ (0 : Int) ≤ MsS.c i_4 ∧ MsS.c i_4 ≤ 1) ∧ ((0 : Int) ≤ IntKind.wrap IntKind.i64 ((↑(MsS.i i_4) : Int) + ((↑(DivS.k i) : Int) - 1)) ∧ IntKind.wrap IntKind.i64 ((↑(MsS.i i_4) : Int) + ((↑(DivS.k i) : Int) - 1)) < (↑(List.length a + 1) : Int)) ∧ (0 : Nat) + Int.toNat (IntKind.wrap IntKind.i64 ((↑(MsS.i i_4) : Int) + ((↑(DivS.k i) : Int) - 1))) < List.length (MsS.u i_4) ∧ ∃ j, D.6 (MsS.u i_3) ((↑(DivS.k i) : Int) - 1) (IntKind.wrap IntKind.u64 (GuS.g i_1 - 1)) j ∧ ((sh = sh ∧ v = v ∧ (↑(List.length v) : Int) = (↑(List.length v) : Int) ∧ ((0 : Nat) = 0 ∧ List.length a + 1 = List.length a + 1) ∧ ((0 : Nat) = 0 ∧ List.length a + 1 - List.length v = List.length a + 1 - List.length v) ∧ (↑(DivS.k i) : Int) - 1 = (↑(DivS.k i) : Int) - 1 ∧ IntKind.wrap IntKind.u64 (GuS.g i_1 - 1) = IntKind.wrap IntKind.u64 (GuS.g i_1 - 1) ∧ (List.getD (MsS.u i_4) ((0 : Nat) + Int.toNat (IntKind.wrap IntKind.i64 ((↑(MsS.i i_4) : Int) + ((↑(DivS.k i) : Int) - 1)))) (0 : Int) + List.getD v (Int.toNat (↑(MsS.i i_4) : Int)) (0 : Int) + MsS.c i_4) / 4294967296 = MsS.c j ∧ v = v ∧ (↑(List.length v) : Int) = (↑(List.length v) : Int) ∧ IntKind.wrap IntKind.i64 ((↑(MsS.i i_4) : Int) + 1) = (↑(MsS.i j) : Int) ∧ True) ∧ List.set (MsS.u i_4) ((0 : Nat) + Int.toNat (IntKind.wrap IntKind.i64 ((↑(MsS.i i_4) : Int) + ((↑(DivS.k i) : Int) - 1)))) ((List.getD (MsS.u i_4) ((0 : Nat) + Int.toNat (IntKind.wrap IntKind.i64 ((↑(MsS.i i_4) : Int) + ((↑(DivS.k i) : Int) - 1)))) (0 : Int) + List.getD v (Int.toNat (↑(MsS.i i_4) : Int)) (0 : Int) + MsS.c i_4) % 4294967296) = MsS.u j ∧ DivS.q i = DivS.q i ∧ True) ∧ List.length v - MsS.i j < List.length v - MsS.i i_4 else ∃ i_5, (D.6 (MsS.u i_3) ((↑(DivS.k i) : Int) - 1) (IntKind.wrap IntKind.u64 (GuS.g i_1 - 1)) i_5 ∧ MsS.i i_5 = List.length v) ∧ (sh = sh ∧ v = v ∧ (↑(List.length v) : Int) = (↑(List.length v) : Int) ∧ ((0 : Nat) = 0 ∧ List.length a + 1 = List.length a + 1) ∧ ((0 : Nat) = 0 ∧ List.length a + 1 - List.length v = List.length a + 1 - List.length v) ∧ (↑(DivS.k i) : Int) - 1 = (↑(DivS.k i) : Int) - 1 ∧ IntKind.wrap IntKind.u64 (GuS.g i_1 - 1) = IntKind.wrap IntKind.u64 (GuS.g i_1 - 1) ∧ MsS.c i_4 = MsS.c i_5 ∧ True) ∧ MsS.u i_4 = MsS.u i_5 ∧ DivS.q i = DivS.q i ∧ True) ∧ ∀ (i_4 : MsS), D.6 (MsS.u i_3) ((↑(DivS.k i) : Int) - 1) (IntKind.wrap IntKind.u64 (GuS.g i_1 - 1)) i_4 ∧ MsS.i i_4 = List.length v → ((0 : Int) ≤ IntKind.wrap IntKind.i64 ((↑(DivS.k i) : Int) - 1 + (↑(List.length v) : Int)) ∧ IntKind.wrap IntKind.i64 ((↑(DivS.k i) : Int) - 1 + (↑(List.length v) : Int)) < (↑(List.length a + 1) : Int)) ∧ (0 : Nat) + Int.toNat (IntKind.wrap IntKind.i64 ((↑(DivS.k i) : Int) - 1 + (↑(List.length v) : Int))) < List.length (MsS.u i_4) ∧ ((0 : Int) ≤ IntKind.wrap IntKind.i64 ((↑(DivS.k i) : Int) - 1 + (↑(List.length v) : Int)) ∧ IntKind.wrap IntKind.i64 ((↑(DivS.k i) : Int) - 1 + (↑(List.length v) : Int)) < (↑(List.length a + 1) : Int)) ∧ (0 : Nat) + Int.toNat (IntKind.wrap IntKind.i64 ((↑(DivS.k i) : Int) - 1 + (↑(List.length v) : Int))) < List.length (MsS.u i_4) ∧ ∃ i_5, D.7 (DivS.q i) ((↑(DivS.k i) : Int) - 1) i_5 ∧ (sh = sh ∧ v = v ∧ (↑(List.length v) : Int) = (↑(List.length v) : Int) ∧ ((0 : Nat) = 0 ∧ List.length a + 1 = List.length a + 1) ∧ ((0 : Nat) = 0 ∧ List.length a + 1 - List.length v = List.length a + 1 - List.length v) ∧ (↑(DivS.k i) : Int) - 1 = (↑(DivS.k i) : Int) - 1 ∧ IntKind.wrap IntKind.u64 (GuS.g i_1 - 1) = MsS.c i_5 ∧ True) ∧ List.set (MsS.u i_4) ((0 : Nat) + Int.toNat (IntKind.wrap IntKind.i64 ((↑(DivS.k i) : Int) - 1 + (↑(List.length v) : Int)))) (IntKind.wrap IntKind.u32 (List.getD (MsS.u i_4) ((0 : Nat) + Int.toNat (IntKind.wrap IntKind.i64 ((↑(DivS.k i) : Int) - 1 + (↑(List.length v) : Int)))) (0 : Int) + MsS.c i_4)) = MsS.u i_5 ∧ DivS.q i = DivS.q i ∧ True else ∃ i_4, D.7 (DivS.q i) ((↑(DivS.k i) : Int) - 1) i_4 ∧ (sh = sh ∧ v = v ∧ (↑(List.length v) : Int) = (↑(List.length v) : Int) ∧ ((0 : Nat) = 0 ∧ List.length a + 1 = List.length a + 1) ∧ ((0 : Nat) = 0 ∧ List.length a + 1 - List.length v = List.length a + 1 - List.length v) ∧ (↑(DivS.k i) : Int) - 1 = (↑(DivS.k i) : Int) - 1 ∧ GuS.g i_1 = MsS.c i_4 ∧ True) ∧ MsS.u i_3 = MsS.u i_4 ∧ DivS.q i = DivS.q i ∧ True) ∧ ∀ (i_3 : MsS), D.7 (DivS.q i) ((↑(DivS.k i) : Int) - 1) i_3 → ((0 : Int) ≤ (↑(DivS.k i) : Int) - 1 ∧ (↑(DivS.k i) : Int) - 1 < (↑(List.length a + 1 - List.length v) : Int)) ∧ (0 : Nat) + Int.toNat ((↑(DivS.k i) : Int) - 1) < List.length (DivS.q i) ∧ ∃ j, D.1 j ∧ ((sh = sh ∧ v = v ∧ (↑(List.length v) : Int) = (↑(List.length v) : Int) ∧ ((0 : Nat) = 0 ∧ List.length a + 1 = List.length a + 1) ∧ ((0 : Nat) = 0 ∧ List.length a + 1 - List.length v = List.length a + 1 - List.length v) ∧ IntKind.wrap IntKind.i64 ((↑(DivS.k i) : Int) - 1 - 1) = (↑(DivS.k j) : Int) - 1 ∧ True) ∧ MsS.u i_3 = DivS.u j ∧ List.set (DivS.q i) ((0 : Nat) + Int.toNat ((↑(DivS.k i) : Int) - 1)) (IntKind.wrap IntKind.u32 (MsS.c i_3)) = DivS.q j ∧ True) ∧ DivS.k j < DivS.k i else ∃ i_1, (D.1 i_1 ∧ DivS.k i_1 = 0) ∧ (sh = sh ∧ v = v ∧ (↑(List.length v) : Int) = (↑(List.length v) : Int) ∧ ((0 : Nat) = 0 ∧ List.length a + 1 = List.length a + 1) ∧ ((0 : Nat) = 0 ∧ List.length a + 1 - List.length v = List.length a + 1 - List.length v) ∧ (↑(DivS.k i) : Int) - 1 = (-1 : Int) ∧ True) ∧ DivS.u i = DivS.u i_1 ∧ DivS.q i = DivS.q i_1 ∧ True) ∧ ∀ (i : DivS), D.1 i ∧ DivS.k i = 0 → ((0 : Nat) + (List.length a + 1 - List.length v) ≤ List.length (DivS.q i) ∧ (∀ (x : Int), x ∈ List.take (List.length a + 1 - List.length v) (List.drop (0 : Nat) (DivS.q i)) → (0 : Int) ≤ x ∧ x < 4294967296) ∧ List.length (List.take (List.length a + 1 - List.length v) (List.drop (0 : Nat) (DivS.q i))) ≤ 1099511627776) ∧ ((0 : Int) ≤ (↑(List.length v) : Int) ∧ (↑(List.length v) : Int) ≤ (↑(List.length a + 1) : Int)) ∧ ((0 : Nat) + Int.toNat (↑(List.length v) : Int) ≤ List.length (DivS.u i) ∧ (∀ (x : Int), x ∈ List.take (Int.toNat (↑(List.length v) : Int)) (List.drop (0 : Nat) (DivS.u i)) → (0 : Int) ≤ x ∧ x < 4294967296) ∧ List.length (List.take (Int.toNat (↑(List.length v) : Int)) (List.drop (0 : Nat) (DivS.u i))) ≤ 1099511627776) ∧ ((∀ (x : Int), x ∈ limbs (Int.toNat (wv (List.take (Int.toNat (↑(List.length v) : Int)) (List.drop (0 : Nat) (DivS.u i))))) → (0 : Int) ≤ x ∧ x < 4294967296) ∧ (0 : Int) ≤ sh ∧ sh < 32 ∧ List.length (limbs (Int.toNat (wv (List.take (Int.toNat (↑(List.length v) : Int)) (List.drop (0 : Nat) (DivS.u i)))))) ≤ 1000000000) ∧ limbs (Int.toNat (wv (List.take (List.length a + 1 - List.length v) (List.drop (0 : Nat) (DivS.q i))))) = limbs (Int.toNat (wv a / wv b)) ∧ limbs (Int.toNat (wv (limbs (Int.toNat (wv (List.take (Int.toNat (↑(List.length v) : Int)) (List.drop (0 : Nat) (DivS.u i)))))) / 2 ^ Int.toNat sh)) = limbs (Int.toNat (wv a % wv b)) ∧ True) = evFn (env2 [c_ncmp, c_ndivw, c_trim, c_lz32, c_nshl, c_nshr, c_sub32, c_add32] (a_ndiv a.length v sh D) fz_ndiv (k_ndiv a.length v sh D)) Tryz.f114 [.ws a, .ws b] (MRes.sat (.ret (.tup [.ws (limbs (wv a / wv b).toNat), .ws (limbs (wv a % wv b).toNat)]))) := by kernel_rfl
theorem limbs_len_ge {n k : Nat} (h : 4294967296 ^ k ≤ n) : k < (limbs n).length := by
 have h1 := limbs_lt n
 rcases Nat.lt_or_ge k (limbs n).length with q | q
 ·exact q
 ·have := Nat.pow_le_pow_right (show 0 < 4294967296 by omega) q
  omega
theorem cast_pow32 (k : Nat) : ((4294967296 ^ k : Nat) : Int) = (4294967296 : Int) ^ k := by simp [Int.natCast_pow]
theorem cast_pow2 (k : Nat) : ((2 ^ k : Nat) : Int) = (2 : Int) ^ k := by simp [Int.natCast_pow]
theorem KV.make {b v : List Int} {sh : Int} (hb : Cn b) (hl : 2 ≤ b.length) (hsh : sh = 32 - (bl (b.getD (b.length - 1) 0).toNat : Int)) (hv : v = limbs (wv b * 2 ^ sh.toNat).toNat) :
  KV v ∧ v.length = b.length ∧ wv v = wv b * 2 ^ sh.toNat ∧ 0 ≤ sh ∧ sh < 32 := by
 have hne : b ≠ [] := by intro e; subst e; simp at hl
 have h1 := bl_words hb hne
 have h4 := hb.wd.getD (b.length - 1)
 have h5 := bl32 (n := (b.getD (b.length - 1) 0).toNat) (by omega)
 have htop := hb.top hne
 have hp := pow_pos32 (b.length - 1)
 obtain ⟨B, hB⟩ : ∃ B : Nat, wv b = B := ⟨(wv b).toNat, by omega⟩
 have hB0 : B ≠ 0 := by omega
 have hblB := bl_lt B
 have hbt : bl (b.getD (b.length - 1) 0).toNat ≠ 0 := by
  intro e
  have h2 := wv_split b (b.length - 1) (by omega)
  have e0 : (b.getD (b.length - 1) 0).toNat = 0 := by
   have := bl_lt (b.getD (b.length - 1) 0).toNat
   rw [e] at this; omega
  have e1 : b.getD (b.length - 1) 0 = 0 := by omega
  rw [List.drop_of_length_le (show b.length ≤ b.length - 1 + 1 by omega), e1] at h2
  have h3 := (wv_take_lt hb.wd (b.length - 1)).2
  simp only [wv, Int.mul_zero, Int.add_zero] at h2
  omega
 rw [hB, Int.toNat_natCast] at h1
 obtain ⟨s, hs⟩ : ∃ s : Nat, sh = s := ⟨sh.toNat, by omega⟩
 have hbl : bl (B * 2 ^ s) = 32 * b.length := by
  have := bl_mul hB0 0 (Nat.two_pow_pos s)
  rw [Nat.add_zero] at this
  omega
 have e : (wv b * 2 ^ sh.toNat) = ((B * 2 ^ s : Nat) : Int) := by
  rw [hB, hs, Int.toNat_natCast, Int.natCast_mul, cast_pow2]
 rw [e, Int.toNat_natCast] at hv
 have hwv : wv v = ((B * 2 ^ s : Nat) : Int) := by rw [hv, wv_limbs]
 have hx := bl_lt (B * 2 ^ s)
 have hx0 : B * 2 ^ s ≠ 0 := Nat.mul_ne_zero hB0 (by have := Nat.two_pow_pos s; omega)
 have hy := bl_le hx0
 rw [hbl] at hx hy
 have hpw : 2 ^ (32 * b.length) = 4294967296 ^ b.length := (pow_words _).symm
 have hpy : 2 ^ (32 * b.length - 1) = 2147483648 * 4294967296 ^ (b.length - 1) := by
  rw [pow_words, show (2147483648 : Nat) = 2 ^ 31 by decide, ← Nat.pow_add]; congr 1; omega
 rw [hpw] at hx
 rw [hpy] at hy
 have hlen : v.length = b.length := by
  have k1 := limbs_len_le hx
  have k2 := limbs_len_ge (n := B * 2 ^ s) (k := b.length - 1) (by omega)
  rw [← hv] at k1 k2; omega
 have hwd : Wd v := by rw [hv]; exact limbs_wd _
 refine ⟨⟨hwd, by omega, ?_⟩, hlen, by rw [hwv, e], by omega, by omega⟩
 have k1 := wv_split v (v.length - 1) (by omega)
 rw [List.drop_of_length_le (show v.length ≤ v.length - 1 + 1 by omega)] at k1
 have k3 := (wv_take_lt hwd (v.length - 1)).2
 simp only [wv, Int.mul_zero, Int.add_zero] at k1
 rw [hwv, hlen] at k1
 rw [hlen] at k3 ⊢
 have hy' : (2147483648 : Int) * 4294967296 ^ (b.length - 1) ≤ ((B * 2 ^ s : Nat) : Int) := by
  rw [← cast_pow32]; omega
 have k4 : (4294967296 : Int) ^ (b.length - 1) * 2147483648 < 4294967296 ^ (b.length - 1) * (v.getD (b.length - 1) 0 + 1) := by
  rw [Int.mul_add]; omega
 have := mul_lt_cancel hp k4
 omega
def dvi (A : Int) (la : Nat) (v : List Int) : DivI where
 Aa := KO A la v
 IG u j s := ∃ n : Nat, j = n ∧ KR la v u n ∧ KG v u n s
 IP u j s := ∃ n : Nat, j = n ∧ KR la v u n ∧ KP v u n s.g
 IM u j g s := ∃ n : Nat, j = n ∧ KR la v u n ∧ KP v u n g ∧ KM v u n g s
 IS q j g s := ∃ n : Nat, j = n ∧ ∃ u, KO A la v ⟨n + 1, u, q⟩ ∧ KP v u n g ∧ KS v u n g s
 IA u j _ s := ∃ n : Nat, j = n ∧ u.length = la + 1 ∧ n + v.length ≤ la ∧ KA v u n s
 IR q j s := ∃ n : Nat, j = n ∧ KE A la v q n s
theorem eu64 {x : Int} (h : 0 ≤ x ∧ x < 18446744073709551616) : IntKind.u64.wrap x = x := by rw [u64w]; omega
theorem eu32 {x : Int} (h : 0 ≤ x ∧ x < 4294967296) : IntKind.u32.wrap x = x := by rw [u32w]; omega
theorem or_hi {x y : Int} (hx : 0 ≤ x ∧ x < 4294967296) (hy : 0 ≤ y ∧ y < 4294967296) :
  IntKind.u64.wrap (↑(BitVec.ofInt (IntKind.bits IntKind.u64) (IntKind.u64.wrap (x * 4294967296)) ||| BitVec.ofInt (IntKind.bits IntKind.u64) y).toNat) = x * 4294967296 + y := by
 rw [eu64 (x := x * 4294967296) (by omega)]
 exact or64 32 (by omega) (by omega) (by omega) hy.1 (by omega) (by omega)
theorem p_ndiv : Good Tryz.f114 s_ndiv := by
 intro ms p r h hp
 unfold s_ndiv at h
 split at h
 ·rename_i a b
  simp only [Option.some.injEq, Prod.mk.injEq] at h
  obtain ⟨rfl, rfl⟩ := h
  obtain ⟨ha, hb, hne, la, lb⟩ : Cn a ∧ Cn b ∧ b ≠ [] ∧ a.length ≤ 1000000 ∧ b.length ≤ 1000000 := hp
  have hb0 : 0 < b.length := List.length_pos_iff.2 hne
  have hbp : 0 < wv b := by have := hb.top hne; have := pow_pos32 (b.length - 1); omega
  have hap := ha.pos
  have eb : IntKind.i64.wrap ((b.length : Int) - 1) = ((b.length - 1 : Nat) : Int) := by rw [i64w (by omega) (by omega)]; omega
  have ea : IntKind.i64.wrap ((a.length : Int) + 1) = ((a.length + 1 : Nat) : Int) := by rw [i64w (by omega) (by omega)]; omega
  obtain ⟨sh, hsh⟩ : ∃ sh : Int, sh = 32 - (bl (b.getD (b.length - 1) 0).toNat : Int) := ⟨_, rfl⟩
  obtain ⟨v, hv⟩ : ∃ v, v = limbs (wv b * 2 ^ sh.toNat).toNat := ⟨_, rfl⟩
  refine ⟨_, cast (vc_ndiv a b v sh (dvi (wv a * 2 ^ sh.toNat) a.length v)) ?_⟩
  simp only [Bool.cond_decide, eb, ea, Int.toNat_natCast, ← hsh, ← hv]
  refine ⟨⟨ha, hb, by omega, by omega⟩, ?_⟩
  split
  ·rename_i hc
   have hlt : wv a < wv b := by unfold icmp at hc; split at hc <;> (try split at hc) <;> omega
   rw [Int.ediv_eq_zero_of_lt hap hlt, Int.emod_eq_of_lt hap hlt]
   exact ⟨⟨True.intro, limbs_zero⟩, ha.symm, True.intro⟩
  ·rename_i hc
   have hle : wv b ≤ wv a := by unfold icmp at hc; split at hc <;> (try split at hc) <;> omega
   cases h1 : ((b.length : Int) == 1) with
   | true =>
    rw [cond_true]
    have h1 : b.length = 1 := by have := beq_iff_eq.1 h1; omega
    obtain ⟨d, rfl⟩ := List.length_eq_one_iff.1 h1
    have hd := hb.wd.getD 0
    have e : wv [d] = d := by simp [wv]
    rw [e] at hbp ⊢
    have hm0 := Int.emod_nonneg (wv a) (show d ≠ 0 by omega)
    have hm1 := Int.emod_lt_of_pos (wv a) hbp
    have hd2 : d < 4294967296 := hd.2
    have e0 : [d].getD (Int.toNat 0) 0 = d := rfl
    rw [e0]
    have e1 : List.take 1 (List.drop 0 [wv a % d]) = [wv a % d] := rfl
    have e2 : wv [wv a % d] = wv a % d := by simp [wv]
    rw [e1, e2]
    refine ⟨⟨by omega, by omega⟩, ⟨ha.wd, hbp, hd2, by omega⟩, ⟨by simp, fun x hx => ?_, by simp⟩, rfl, rfl, True.intro⟩
    simp only [List.mem_singleton] at hx
    subst hx; omega
   | false =>
    rw [cond_false]
    have hb2 : 2 ≤ b.length := by
     have : ¬ ((b.length : Int) = 1) := by intro e; rw [e] at h1; simp at h1
     omega
    obtain ⟨hK, hvl, hwv, sh0, sh1⟩ := KV.make hb hb2 hsh hv
    have hba : b.length ≤ a.length := by
     rcases Nat.lt_or_ge a.length b.length with q | q
     ·have := wv_lt_of_len ha.wd hb q; omega
     ·exact q
    have hq := hb.wd.getD (b.length - 1)
    have el : IntKind.i64.wrap (((a.length + 1 : Nat) : Int) - (v.length : Int)) = ((a.length + 1 - v.length : Nat) : Int) := by rw [i64w (by omega) (by omega)]; omega
    have el1 : IntKind.i64.wrap (((a.length + 1 - v.length : Nat) : Int) - 1) = ((a.length + 1 - v.length : Nat) : Int) - 1 := i64w (by omega) (by omega)
    simp only [el, el1, Int.toNat_natCast, Nat.zero_add, List.take_zero, List.nil_append, List.drop_zero]
    obtain ⟨X, hX⟩ : ∃ X, X = limbs (wv a * 2 ^ sh.toNat).toNat := ⟨_, rfl⟩
    rw [← hX]
    have hXw : wv X = wv a * 2 ^ sh.toNat := by
     rw [hX, wv_limbs, Int.toNat_of_nonneg (Int.mul_nonneg hap (Int.pow_nonneg (by omega)))]
    have hP1 : (2 : Int) ^ sh.toNat < 4294967296 := by
     have := Nat.pow_lt_pow_right (show 1 < 2 by omega) (show sh.toNat < 32 by omega)
     rw [← cast_pow2]; omega
    have hP0 : (0 : Int) < 2 ^ sh.toNat := Int.pow_pos (by omega)
    have haW := wv_lt ha.wd
    have hX2 : X.length ≤ a.length + 1 := by
     rw [hX]
     refine limbs_len_le ?_
     have k1 : wv a * 2 ^ sh.toNat < 4294967296 ^ (a.length + 1) := by
      rw [Int.pow_succ]
      exact Int.mul_lt_mul haW (by omega) hP0 (by have := pow_pos32 a.length; omega)
     have k2 := cast_pow32 (a.length + 1)
     have k3 : 0 ≤ wv a * 2 ^ sh.toNat := Int.mul_nonneg hap (by omega)
     omega
    have hXd : Wd X := by rw [hX]; exact limbs_wd _
    have hu0 : List.take (a.length + 1) X ++ List.drop (min X.length (a.length + 1)) (List.replicate (a.length + 1) 0) = X ++ List.replicate (a.length + 1 - X.length) 0 := by
     rw [List.take_of_length_le hX2, Nat.min_eq_left hX2, List.drop_replicate]
    rw [hu0]
    refine ⟨⟨by omega, by omega⟩, by omega, ⟨hb.wd, sh0, by omega, by omega⟩, (by and_intros <;> first | exact True.intro | rfl | omega), ⟨ha.wd, sh0, by omega, by omega⟩, by simp, (by and_intros <;> first | exact True.intro | rfl | omega), ⟨⟨⟨a.length + 1 - v.length, X ++ List.replicate (a.length + 1 - X.length) 0, List.replicate (a.length + 1 - v.length) 0⟩, KO.start (by omega) (hXd.append (Wd.replicate _)) (by simp; omega) ?_ ?_, by and_intros <;> first | exact True.intro | rfl⟩, ?_⟩, ?_⟩
    ·rw [wv_append, wv_replicate, hXw]; simp
    ·rw [wv_append, wv_replicate, hXw, hwv, Int.mul_zero, Int.add_zero, ← Int.mul_assoc]
     refine Int.mul_lt_mul_of_pos_right ?_ hP0
     have k1 := hb.top hne
     have k2 : (4294967296 : Int) ^ a.length = 4294967296 ^ (a.length + 1 - v.length) * 4294967296 ^ (b.length - 1) := by rw [← Int.pow_add]; congr 1; omega
     have k3 : (4294967296 : Int) ^ (a.length + 1 - v.length) * 4294967296 ^ (b.length - 1) ≤ 4294967296 ^ (a.length + 1 - v.length) * wv b := Int.mul_le_mul_of_nonneg_left k1 (by have := pow_pos32 (a.length + 1 - v.length); omega)
     omega
    ·rintro ⟨k, u, q⟩ hO
     have hhk : k + v.length ≤ a.length + 1 := hO.hk
     split
     ·rename_i hge
      have hge : (k : Int) - 1 ≥ 0 := hge
      obtain ⟨n, rfl⟩ : ∃ n, k = n + 1 := ⟨k - 1, by omega⟩
      have hR : KR a.length v u n := hO.round rfl
      have hlu : u.length = a.length + 1 := hR.lu
      have hlq : q.length = a.length + 1 - v.length := hO.lq
      have e0 : (((n + 1 : Nat) : Int) - 1) = (n : Int) := by omega
      have e1 : IntKind.i64.wrap ((n : Int) + (v.length : Int)) = ((n + v.length : Nat) : Int) := by rw [i64w (by omega) (by omega)]; omega
      have e2 : IntKind.i64.wrap (((n + v.length : Nat) : Int) - 1) = ((n + v.length - 1 : Nat) : Int) := by rw [i64w (by omega) (by omega)]; omega
      have e3 : IntKind.i64.wrap (((n + v.length : Nat) : Int) - 2) = ((n + v.length - 2 : Nat) : Int) := by rw [i64w (by omega) (by omega)]; omega
      have e4 : IntKind.i64.wrap ((v.length : Int) - 1) = ((v.length - 1 : Nat) : Int) := by rw [i64w (by omega) (by omega)]; omega
      have e5 : IntKind.i64.wrap ((v.length : Int) - 2) = ((v.length - 2 : Nat) : Int) := by rw [i64w (by omega) (by omega)]; omega
      have hG0 := KG.init hK hR rfl
      have hB := KG.bounds hK hR hG0
      obtain ⟨b0, b1, b2, b3, b4, b5⟩ := hB
      have b0 : (u.getD (n + v.length) 0 * 4294967296 + u.getD (n + v.length - 1) 0) / v.getD (v.length - 1) 0 ≤ 4294967297 := b0
      have eo := or_hi b1 b2
      have x0 : IntKind.u64.wrap (u.getD (n + v.length) 0) = u.getD (n + v.length) 0 := eu64 (by omega)
      have x1 : IntKind.u64.wrap (u.getD (n + v.length - 1) 0) = u.getD (n + v.length - 1) 0 := eu64 (by omega)
      have x2 : IntKind.u64.wrap (u.getD (n + v.length - 2) 0) = u.getD (n + v.length - 2) 0 := eu64 (by omega)
      have x3 : IntKind.u64.wrap (v.getD (v.length - 1) 0) = v.getD (v.length - 1) 0 := eu64 (by omega)
      have x4 : IntKind.u64.wrap (v.getD (v.length - 2) 0) = v.getD (v.length - 2) 0 := eu64 (by omega)
      have x5 : IntKind.u64.wrap ((u.getD (n + v.length) 0 * 4294967296 + u.getD (n + v.length - 1) 0) / v.getD (v.length - 1) 0) = (u.getD (n + v.length) 0 * 4294967296 + u.getD (n + v.length - 1) 0) / v.getD (v.length - 1) 0 := eu64 ⟨hG0.g0, by omega⟩
      have t1 : Int.tdiv (u.getD (n + v.length) 0 * 4294967296 + u.getD (n + v.length - 1) 0) (v.getD (v.length - 1) 0) = (u.getD (n + v.length) 0 * 4294967296 + u.getD (n + v.length - 1) 0) / v.getD (v.length - 1) 0 := Int.tdiv_eq_ediv_of_nonneg (by omega)
      have t2 : Int.tmod (u.getD (n + v.length) 0 * 4294967296 + u.getD (n + v.length - 1) 0) (v.getD (v.length - 1) 0) = (u.getD (n + v.length) 0 * 4294967296 + u.getD (n + v.length - 1) 0) % v.getD (v.length - 1) 0 := Int.tmod_eq_emod_of_nonneg (by omega)
      simp only [e0, e1, e2, e3, e4, e5, Int.toNat_natCast, p32, x0, x1, x2, x3, x4, eo, t1, t2, x5]
      refine ⟨(by and_intros <;> first | exact True.intro | rfl | omega), by omega, by omega, (by and_intros <;> first | exact True.intro | rfl | omega), by omega, (by and_intros <;> first | exact True.intro | rfl | omega), (fun e => by omega), (by and_intros <;> first | exact True.intro | rfl | omega), (fun e => by omega), ⟨⟨_, ⟨n, rfl, hR, hG0⟩, (by and_intros <;> first | exact True.intro | rfl | omega)⟩, ?_⟩, ?_⟩
      ·rintro ⟨g, r⟩ ⟨n', hn', _, hG⟩
       have hn' : n' = n := by omega
       subst hn'
       obtain ⟨c0, -⟩ := KG.bounds hK hR hG
       have c0 : g ≤ 4294967297 := c0
       have c1 : 0 ≤ g := hG.g0
       have c2 : 0 ≤ r ∧ r < 4294967296 := hG.r0
       have y1 : IntKind.u64.wrap (r + v.getD (v.length - 1) 0) = r + v.getD (v.length - 1) 0 := eu64 (by omega)
       have y2 := or_hi c2 b3
       simp only [y1, y2]
       have stepP : (4294967295 < g ∨ r * 4294967296 + u.getD (n' + v.length - 2) 0 < g * v.getD (v.length - 2) 0) → IntKind.u64.wrap (g - 1) = g - 1 := fun hc => by
        have := (KG.down hK hR hG hc).2
        exact eu64 (by have : 1 ≤ g := this; omega)
       split
       ·rename_i hc
        have hc1 : 4294967295 < g ∨ r * 4294967296 + u.getD (n' + v.length - 2) 0 < g * v.getD (v.length - 2) 0 := .inl hc
        have y3 := stepP hc1
        have y4 : 1 ≤ g := (KG.down hK hR hG hc1).2
        simp only [y3]
        refine ⟨(by and_intros <;> first | exact True.intro | rfl | omega), ?_⟩
        split
        ·rename_i hr
         exact ⟨⟨g - 1, 0⟩, ⟨n', rfl, hR, KG.stop hK hR hG hc1 hr⟩, (by and_intros <;> first | exact True.intro | rfl | omega)⟩
        ·rename_i hr
         exact ⟨_, ⟨n', rfl, hR, KG.step hK hR hG hc1 hr⟩, (by and_intros <;> first | exact True.intro | rfl | omega), by show (g - 1).toNat < g.toNat; omega⟩
       ·rename_i hc
        have hc : ¬ 4294967295 < g := hc
        have m1 := mulw2 (c := 0) (x := v.getD (v.length - 2) 0) ⟨c1, (by omega : g < 4294967296)⟩ b5 (by omega)
        have y5 : IntKind.u64.wrap (g * v.getD (v.length - 2) 0) = g * v.getD (v.length - 2) 0 := eu64 (by omega)
        simp only [y5]
        refine ⟨(by and_intros <;> first | exact True.intro | rfl | omega), by omega, (by and_intros <;> first | exact True.intro | rfl | omega), by omega, ?_⟩
        split
        ·rename_i hc2
         have hc1 : 4294967295 < g ∨ r * 4294967296 + u.getD (n' + v.length - 2) 0 < g * v.getD (v.length - 2) 0 := .inr hc2
         have y3 := stepP hc1
         have y4 : 1 ≤ g := (KG.down hK hR hG hc1).2
         simp only [y3]
         refine ⟨(by and_intros <;> first | exact True.intro | rfl | omega), ?_⟩
         split
         ·rename_i hr
          exact ⟨⟨g - 1, 0⟩, ⟨n', rfl, hR, KG.stop hK hR hG hc1 hr⟩, (by and_intros <;> first | exact True.intro | rfl | omega)⟩
         ·rename_i hr
          exact ⟨_, ⟨n', rfl, hR, KG.step hK hR hG hc1 hr⟩, (by and_intros <;> first | exact True.intro | rfl | omega), by show (g - 1).toNat < g.toNat; omega⟩
        ·rename_i hc2
         exact ⟨⟨g, r⟩, ⟨n', rfl, hR, KG.done hK hR hG hc hc2⟩, (by and_intros <;> first | exact True.intro | rfl | omega)⟩
      ·rintro ⟨g, r⟩ ⟨n', hn', _, hP⟩
       have hn' : n' = n := by omega
       subst hn'
       have hg : 0 ≤ g ∧ g < 4294967296 := hP.g0
       simp only []
       refine ⟨⟨⟨⟨0, u, 0, 0⟩, ⟨n', rfl, hR, hP, KM.init hR.wu g⟩, (by and_intros <;> first | exact True.intro | rfl | omega)⟩, ?_⟩, ?_⟩
       ·rintro ⟨i, u2, c, b'⟩ ⟨n2, hn2, _, _, hM⟩
        have hn2 : n2 = n' := by omega
        subst hn2
        have hi : i ≤ v.length := hM.hi
        have hl2 : u2.length = a.length + 1 := hM.len.trans hlu
        have hb' : 0 ≤ b' ∧ b' ≤ 1 := hM.b0
        have hc' : 0 ≤ c ∧ c < 4294967296 := hM.c0
        have hwu2 : Wd u2 := hM.wd
        simp only []
        split
        ·rename_i hlt
         have hlt : i < v.length := by omega
         have z1 : IntKind.i64.wrap ((i : Int) + (n2 : Int)) = ((i + n2 : Nat) : Int) := by rw [i64w (by omega) (by omega)]; omega
         have z2 : IntKind.i64.wrap ((i : Int) + 1) = ((i + 1 : Nat) : Int) := by rw [i64w (by omega) (by omega)]; omega
         have hx := hK.wd.getD i
         have hd := hwu2.getD (i + n2)
         have m1 := mulw2 hg hx hc'
         have z3 : IntKind.u64.wrap (v.getD i 0) = v.getD i 0 := eu64 (by omega)
         have z4 : IntKind.u64.wrap (g * v.getD i 0) = g * v.getD i 0 := eu64 (by omega)
         have z5 : IntKind.u64.wrap (g * v.getD i 0 + c) = g * v.getD i 0 + c := eu64 (by omega)
         have z6 : IntKind.u32.wrap (g * v.getD i 0 + c) = (g * v.getD i 0 + c) % 4294967296 := u32w _
         have z7 : Int.fdiv (g * v.getD i 0 + c) 4294967296 = (g * v.getD i 0 + c) / 4294967296 := Int.fdiv_eq_ediv_of_nonneg _ (by omega)
         simp only [z1, z2, z3, z4, z5, z6, z7, Int.toNat_natCast]
         refine ⟨(by and_intros <;> first | exact True.intro | rfl | omega), by omega, (by and_intros <;> first | exact True.intro | rfl | omega), by omega, (by and_intros <;> first | exact True.intro | rfl | omega), (by and_intros <;> first | exact True.intro | rfl | omega), by omega, _, ⟨n2, rfl, hR, hP, KM.step hK.wd hg hM hlt (by omega) rfl⟩, (by and_intros <;> first | exact True.intro | rfl | omega), by show v.length - (i + 1) < v.length - i; omega⟩
        ·rename_i hlt
         exact ⟨⟨i, u2, c, b'⟩, ⟨⟨n2, rfl, hR, hP, hM⟩, by show i = v.length; omega⟩, (by and_intros <;> first | exact True.intro | rfl | omega)⟩
       ·rintro ⟨i, u2, c, b'⟩ ⟨⟨n2, hn2, _, _, hM⟩, hi⟩
        have hn2 : n2 = n' := by omega
        subst hn2
        have hi : i = v.length := hi
        have hl2 : u2.length = a.length + 1 := hM.len.trans hlu
        have hb' : 0 ≤ b' ∧ b' ≤ 1 := hM.b0
        have hc' : 0 ≤ c ∧ c < 4294967296 := hM.c0
        have hwu2 : Wd u2 := hM.wd
        have hd := hwu2.getD (n2 + v.length)
        have z6 : IntKind.u32.wrap c = c % 4294967296 := u32w _
        simp only [z6]
        refine ⟨⟨⟨(by and_intros <;> first | exact True.intro | rfl | omega), by omega, (by and_intros <;> first | exact True.intro | rfl | omega), (by and_intros <;> first | exact True.intro | rfl | omega), by omega, _, ⟨n2, rfl, u, hO, hP, KM.top hM hi (by omega) rfl⟩, (by and_intros <;> first | exact True.intro | rfl | omega)⟩, ?_⟩, ?_⟩
        ·rintro ⟨i3, u3, c3, b3'⟩ ⟨n3, hn3, u0, hO3, hP3, hS⟩
         have hn3 : n3 = n2 := by omega
         subst hn3
         have hb3 : 0 ≤ b3' ∧ b3' ≤ 1 := hS.b0
         have hlu0 : u0.length = a.length + 1 := hO3.lu
         have hl3 : u3.length = a.length + 1 := hS.len.trans hlu0
         simp only []
         split
         ·rename_i hbp
          have hbad := hS.bad hK (hO3.round rfl) hP3 hbp
          have y3 : IntKind.u64.wrap (g - 1) = g - 1 := eu64 (by omega)
          simp only [y3]
          refine ⟨⟨⟨⟨0, u3, 0, 0⟩, ⟨n3, rfl, hl3, by omega, KA.init hS.wd⟩, (by and_intros <;> first | exact True.intro | rfl | omega)⟩, ?_⟩, ?_⟩
          ·rintro ⟨i4, u4, c4, b4'⟩ ⟨n4, hn4, _, _, hA⟩
           have hn4 : n4 = n3 := by omega
           subst hn4
           have hi4 : i4 ≤ v.length := hA.hi
           have hl4 : u4.length = a.length + 1 := hA.len.trans hl3
           have hc4 : 0 ≤ c4 ∧ c4 ≤ 1 := hA.c0
           have hwu4 : Wd u4 := hA.wd
           simp only []
           split
           ·rename_i hlt
            have hlt : i4 < v.length := by omega
            have z1 : IntKind.i64.wrap ((i4 : Int) + (n4 : Int)) = ((i4 + n4 : Nat) : Int) := by rw [i64w (by omega) (by omega)]; omega
            have z2 : IntKind.i64.wrap ((i4 : Int) + 1) = ((i4 + 1 : Nat) : Int) := by rw [i64w (by omega) (by omega)]; omega
            have hx := hK.wd.getD i4
            have hd4 := hwu4.getD (i4 + n4)
            simp only [z1, z2, Int.toNat_natCast]
            refine ⟨(by and_intros <;> first | exact True.intro | rfl | omega), (by and_intros <;> first | exact True.intro | rfl | omega), by omega, (by and_intros <;> first | exact True.intro | rfl | omega), (by and_intros <;> first | exact True.intro | rfl | omega), by omega, _, ⟨n4, rfl, hl3, by omega, KA.step hK.wd hA hlt (by omega) 0⟩, (by and_intros <;> first | exact True.intro | rfl | omega), by show v.length - (i4 + 1) < v.length - i4; omega⟩
           ·rename_i hlt
            exact ⟨⟨i4, u4, c4, b4'⟩, ⟨⟨n4, rfl, hl3, by omega, hA⟩, by show i4 = v.length; omega⟩, (by and_intros <;> first | exact True.intro | rfl | omega)⟩
          ·rintro ⟨i4, u4, c4, b4'⟩ ⟨⟨n4, hn4, _, _, hA⟩, hi4⟩
           have hn4 : n4 = n3 := by omega
           subst hn4
           have hl4 : u4.length = a.length + 1 := hA.len.trans hl3
           have z8 : IntKind.u32.wrap (u4.getD (n4 + v.length) 0 + c4) = (u4.getD (n4 + v.length) 0 + c4) % 4294967296 := u32w _
           simp only [z8]
           exact ⟨(by and_intros <;> first | exact True.intro | rfl | omega), by omega, (by and_intros <;> first | exact True.intro | rfl | omega), by omega, _, ⟨n4, rfl, KS.back hK hO3 rfl hP3 hS hbp hA hi4 rfl⟩, (by and_intros <;> first | exact True.intro | rfl | omega)⟩
         ·rename_i hbp
          exact ⟨_, ⟨n3, rfl, KS.good hO3 rfl hP3 hS (by show b3' = 0; omega)⟩, (by and_intros <;> first | exact True.intro | rfl | omega)⟩
        ·rintro ⟨i4, u4, c4, b4'⟩ ⟨n4, hn4, hE⟩
         have hn4 : n4 = n2 := by omega
         subst hn4
         have hc4 : 0 ≤ c4 ∧ c4 < 4294967296 := hE.c0
         have z9 : IntKind.u32.wrap c4 = c4 := eu32 hc4
         have z10 : IntKind.i64.wrap ((n4 : Int) - 1) = (n4 : Int) - 1 := i64w (by omega) (by omega)
         simp only [z9, z10]
         exact ⟨(by and_intros <;> first | exact True.intro | rfl | omega), by omega, _, hE.next, (by and_intros <;> first | exact True.intro | rfl | omega), by show n4 < n4 + 1; omega⟩
     ·rename_i hge
      have hge : ¬ (k : Int) - 1 ≥ 0 := hge
      have hk : k = 0 := by omega
      subst hk
      exact ⟨⟨0, u, q⟩, ⟨hO, rfl⟩, (by and_intros <;> first | exact True.intro | rfl | omega)⟩
    ·rintro ⟨k, u, q⟩ ⟨hO, hk⟩
     have hk : k = 0 := hk
     subst hk
     obtain ⟨f1, f2, f3⟩ := hO.fin hK rfl hbp hwv
     have hlu : u.length = a.length + 1 := hO.lu
     have hlq : q.length = a.length + 1 - v.length := hO.lq
     have hwu : Wd u := hO.wu
     have hwq : Wd q := hO.wq
     simp only [] at f1 f2 f3
     rw [List.take_of_length_le (show q.length ≤ a.length + 1 - v.length by omega), wv_limbs, f1, f3, Int.toNat_of_nonneg (wv_nonneg hwu), f2]
     refine ⟨⟨by show _ ≤ q.length; omega, hwq, by show q.length ≤ _; omega⟩, ⟨by omega, by omega⟩, ⟨by show _ ≤ u.length; omega, hwu.take _, by simp; omega⟩, ⟨limbs_wd _, sh0, by omega, ?_⟩, rfl, rfl, True.intro⟩
     have := limbs_len_le (n := (wv u).toNat) (k := a.length + 1) (by
      have k1 := wv_lt hwu
      rw [hlu] at k1
      have k2 := cast_pow32 (a.length + 1)
      have k3 := wv_nonneg hwu
      omega)
     omega
 ·simp at h
def c_ndiv : Ctr Tryz.prog := ⟨114, s_ndiv, fun args w => Tryz.call114 args w, fn_ok mix Tryz.func114 s_ndiv p_ndiv⟩
end Go.Proofs.YtnfmjlhkknndhaaGreat
/-
 Contracts of functions: division of integers, common divisors.
-/
namespace Go.Proofs.YtnfmjlhkknndhaaGreat
open Go Go.RowKit
/-! ### integer.DivMod, mod, Gcd, Bezout -/
def s_divmod : FSpec
 | [.big a n, .big b m] => some (some (n ≤ 900000 ∧ m ≤ 900000), .br (decide (b = 0)) (.ret (.tup [.big 0 0, .big 0 0, .int .i64 4])) (.ret (.tup [.big (a / b) n, .big (a % b) m, .int .i64 0])))
 | _ => none
theorem vc_divmod (a b : Int) (n m : Nat) : (bif (↑(List.length (limbs (Int.natAbs b))) : Int) == 0 then bif decide (b = 0) then LeB 0 0 0 0 ∧ LeB 0 0 0 0 ∧ (4 : Int) = 4 ∧ True else LeB 0 (a / b) 0 n ∧ LeB 0 (a % b) 0 m ∧ (4 : Int) = 0 ∧ True else (limbs (Int.toNat (wv (limbs (Int.natAbs a)))) = limbs (Int.natAbs a) ∧ limbs (Int.toNat (wv (limbs (Int.natAbs b)))) = limbs (Int.natAbs b) ∧ (limbs (Int.natAbs b) = [] → False) ∧ List.length (limbs (Int.natAbs a)) ≤ 1000000 ∧ List.length (limbs (Int.natAbs b)) ≤ 1000000) ∧ ((∀ (x : Int), x ∈ limbs (Int.toNat (wv (limbs (Int.natAbs a)) / wv (limbs (Int.natAbs b)))) → (0 : Int) ≤ x ∧ x < 4294967296) ∧ List.length (limbs (Int.toNat (wv (limbs (Int.natAbs a)) / wv (limbs (Int.natAbs b))))) ≤ 1000000000) ∧ ((∀ (x : Int), x ∈ limbs (Int.toNat (wv (limbs (Int.natAbs a)) % wv (limbs (Int.natAbs b)))) → (0 : Int) ≤ x ∧ x < 4294967296) ∧ List.length (limbs (Int.toNat (wv (limbs (Int.natAbs a)) % wv (limbs (Int.natAbs b))))) ≤ 1000000000) ∧ bif decide (sg (decide (a < 0)) (wv (limbs (Int.toNat (wv (limbs (Int.natAbs a)) % wv (limbs (Int.natAbs b)))))) < 0) then m ≤ 1000000 ∧ ((32 : Nat) * List.length (limbs (Int.toNat (wv (limbs (Int.natAbs a)) % wv (limbs (Int.natAbs b))))) ≤ 1000000 ∧ m ≤ 1000000) ∧ Fit (sgn b) ∧ ((32 : Nat) * List.length (limbs (Int.toNat (wv (limbs (Int.natAbs a)) / wv (limbs (Int.natAbs b))))) ≤ 1000000 ∧ (64 : Nat) ≤ 1000000) ∧ bif decide (b = 0) then LeB (sg (!decide (a < 0) == decide (b < 0)) (wv (limbs (Int.toNat (wv (limbs (Int.natAbs a)) / wv (limbs (Int.natAbs b)))))) - sgn b) 0 (max ((32 : Nat) * List.length (limbs (Int.toNat (wv (limbs (Int.natAbs a)) / wv (limbs (Int.natAbs b)))))) (64 : Nat) + 1) 0 ∧ LeB (sg (decide (a < 0)) (wv (limbs (Int.toNat (wv (limbs (Int.natAbs a)) % wv (limbs (Int.natAbs b)))))) + (↑(Int.natAbs b) : Int)) 0 (max ((32 : Nat) * List.length (limbs (Int.toNat (wv (limbs (Int.natAbs a)) % wv (limbs (Int.natAbs b)))))) m + 1) 0 ∧ (0 : Int) = 4 ∧ True else LeB (sg (!decide (a < 0) == decide (b < 0)) (wv (limbs (Int.toNat (wv (limbs (Int.natAbs a)) / wv (limbs (Int.natAbs b)))))) - sgn b) (a / b) (max ((32 : Nat) * List.length (limbs (Int.toNat (wv (limbs (Int.natAbs a)) / wv (limbs (Int.natAbs b)))))) (64 : Nat) + 1) n ∧ LeB (sg (decide (a < 0)) (wv (limbs (Int.toNat (wv (limbs (Int.natAbs a)) % wv (limbs (Int.natAbs b)))))) + (↑(Int.natAbs b) : Int)) (a % b) (max ((32 : Nat) * List.length (limbs (Int.toNat (wv (limbs (Int.natAbs a)) % wv (limbs (Int.natAbs b)))))) m + 1) m ∧ (0 : Int) = 0 ∧ True else bif decide (b = 0) then LeB (sg (!decide (a < 0) == decide (b < 0)) (wv (limbs (Int.toNat (wv (limbs (Int.natAbs a)) / wv (limbs (Int.natAbs b))))))) 0 ((32 : Nat) * List.length (limbs (Int.toNat (wv (limbs (Int.natAbs a)) / wv (limbs (Int.natAbs b)))))) 0 ∧ LeB (sg (decide (a < 0)) (wv (limbs (Int.toNat (wv (limbs (Int.natAbs a)) % wv (limbs (Int.natAbs b))))))) 0 ((32 : Nat) * List.length (limbs (Int.toNat (wv (limbs (Int.natAbs a)) % wv (limbs (Int.natAbs b)))))) 0 ∧ (0 : Int) = 4 ∧ True else LeB (sg (!decide (a < 0) == decide (b < 0)) (wv (limbs (Int.toNat (wv (limbs (Int.natAbs a)) / wv (limbs (Int.natAbs b))))))) (a / b) ((32 : Nat) * List.length (limbs (Int.toNat (wv (limbs (Int.natAbs a)) / wv (limbs (Int.natAbs b)))))) n ∧ LeB (sg (decide (a < 0)) (wv (limbs (Int.toNat (wv (limbs (Int.natAbs a)) % wv (limbs (Int.natAbs b))))))) (a % b) ((32 : Nat) * List.length (limbs (Int.toNat (wv (limbs (Int.natAbs a)) % wv (limbs (Int.natAbs b)))))) m ∧ (0 : Int) = 0 ∧ True) = evFn (env [c_ndiv, c_of, c_iadd, c_isub, c_abs, c_sign, c_iof] noAnn) Tryz.f91 [.big a n, .big b m] (MRes.sat (.br (decide (b = 0)) (.ret (.tup [.big 0 0, .big 0 0, .int .i64 4])) (.ret (.tup [.big (a / b) n, .big (a % b) m, .int .i64 0])))) := by kernel_rfl
theorem divmod_unique {a b q r : Int} (h : b * q + r = a) (h0 : 0 ≤ r) (h1 : r < (b.natAbs : Int)) : a / b = q ∧ a % b = r := by
 have e : a % b = r := by
  rw [← h, Int.mul_add_emod_self_left]
  rcases Int.lt_or_le b 0 with hb | hb
  ·rw [← Int.emod_neg, Int.emod_eq_of_lt h0 (by omega)]
  ·rw [Int.emod_eq_of_lt h0 (by omega)]
 refine ⟨?_, e⟩
 have h2 := Int.mul_ediv_add_emod a b
 rw [e] at h2
 have h3 : b * (a / b) = b * q := by omega
 exact Int.eq_of_mul_eq_mul_left (by omega) h3
theorem divmod_signs (a b : Int) (hb : b ≠ 0) {x y : Nat} (hx : x = a.natAbs / b.natAbs) (hy : y = a.natAbs % b.natAbs) :
  (sg (decide (a < 0)) (y : Int) < 0 → sg (decide (a < 0)) (y : Int) + (b.natAbs : Int) = a % b ∧ sg (!(decide (a < 0) == decide (b < 0))) (x : Int) - sgn b = a / b) ∧
  (¬ sg (decide (a < 0)) (y : Int) < 0 → sg (decide (a < 0)) (y : Int) = a % b ∧ sg (!(decide (a < 0) == decide (b < 0))) (x : Int) = a / b) := by
 have hm : b.natAbs * x + y = a.natAbs := by rw [hx, hy]; exact Nat.div_add_mod ..
 have hlt : y < b.natAbs := by rw [hy]; exact Nat.mod_lt _ (by omega)
 clear hx hy
 have hm' : (b.natAbs : Int) * (x : Int) + (y : Int) = (a.natAbs : Int) := by rw [← hm]; simp
 have uniq : ∀ q r : Int, b * q + r = a → 0 ≤ r → r < (b.natAbs : Int) → r = a % b ∧ q = a / b := fun q r h h0 h1 => by
  have := divmod_unique h h0 h1
  exact ⟨this.2.symm, this.1.symm⟩
 rcases Int.lt_or_le a 0 with q1 | q1 <;> rcases Int.lt_or_le b 0 with q2 | q2
 ·rw [show decide (a < 0) = true from decide_eq_true q1, show decide (b < 0) = true from decide_eq_true q2]
  have e1 : (b.natAbs : Int) = -b := by omega
  have e2 : (a.natAbs : Int) = -a := by omega
  have e3 : sgn b = -1 := by unfold sgn; rw [if_neg hb, if_pos q2]
  rw [e1, e2, Int.neg_mul] at hm'
  refine ⟨fun h => ?_, fun h => ?_⟩
  ·show -(y : Int) + _ = _ ∧ (x : Int) - sgn b = _
   rw [e3]
   refine uniq _ _ ?_ (by omega) (by have : -(y : Int) < 0 := h; omega)
   rw [Int.mul_sub, e1]; omega
  ·have h : ¬ -(y : Int) < 0 := h
   show -(y : Int) = _ ∧ (x : Int) = _
   exact uniq _ _ (by omega) (by omega) (by omega)
 ·rw [show decide (a < 0) = true from decide_eq_true q1, show decide (b < 0) = false from decide_eq_false (by omega)]
  have e1 : (b.natAbs : Int) = b := by omega
  have e2 : (a.natAbs : Int) = -a := by omega
  have e3 : sgn b = 1 := by unfold sgn; rw [if_neg hb, if_neg (by omega)]
  rw [e1, e2] at hm'
  refine ⟨fun h => ?_, fun h => ?_⟩
  ·show -(y : Int) + _ = _ ∧ -(x : Int) - sgn b = _
   rw [e3]
   refine uniq _ _ ?_ (by omega) (by have : -(y : Int) < 0 := h; omega)
   rw [Int.mul_sub, Int.mul_neg, e1]; omega
  ·have h : ¬ -(y : Int) < 0 := h
   show -(y : Int) = _ ∧ -(x : Int) = _
   exact uniq _ _ (by rw [Int.mul_neg]; omega) (by omega) (by omega)
 ·rw [show decide (a < 0) = false from decide_eq_false (by omega), show decide (b < 0) = true from decide_eq_true q2]
  have e1 : (b.natAbs : Int) = -b := by omega
  have e2 : (a.natAbs : Int) = a := by omega
  rw [e1, e2, Int.neg_mul] at hm'
  refine ⟨fun h => ?_, fun h => ?_⟩
  ·have h : (y : Int) < 0 := h
   omega
  ·show (y : Int) = _ ∧ -(x : Int) = _
   exact uniq _ _ (by rw [Int.mul_neg]; omega) (by omega) (by omega)
 ·rw [show decide (a < 0) = false from decide_eq_false (by omega), show decide (b < 0) = false from decide_eq_false (by omega)]
  have e1 : (b.natAbs : Int) = b := by omega
  have e2 : (a.natAbs : Int) = a := by omega
  rw [e1, e2] at hm'
  refine ⟨fun h => ?_, fun h => ?_⟩
  ·have h : (y : Int) < 0 := h
   omega
  ·show (y : Int) = _ ∧ (x : Int) = _
   exact uniq _ _ (by omega) (by omega) (by omega)
theorem natAbs_ediv (a b : Int) : (a / b).natAbs ≤ a.natAbs := Int.natAbs_ediv_le_natAbs a b
theorem natAbs_emod {a b : Int} (hb : b ≠ 0) : (a % b).natAbs < b.natAbs := by
 have h1 := Int.emod_nonneg a hb
 have h2 := Int.emod_lt a hb
 omega
theorem p_divmod : GoodF Tryz.f91 s_divmod := by
 intro ms p r h hp hf
 unfold s_divmod at h
 split at h
 ·rename_i a n b m
  simp only [Option.some.injEq, Prod.mk.injEq] at h
  obtain ⟨rfl, rfl⟩ := h
  obtain ⟨hn, hm⟩ : n ≤ 900000 ∧ m ≤ 900000 := hp
  have ha : a.natAbs < 2 ^ n := hf.1
  have hb : b.natAbs < 2 ^ m := hf.2.1
  refine ⟨env [c_ndiv, c_of, c_iadd, c_isub, c_abs, c_sign, c_iof] noAnn, ?_⟩
  rw [← vc_divmod a b n m]
  have l1 := limbs_len_bits ha
  have l2 := limbs_len_bits hb
  by_cases hz : b = 0
  ·subst hz
   have e : ((((limbs (0 : Int).natAbs).length : Nat) : Int) == 0) = true := by rw [show (0 : Int).natAbs = 0 from rfl, limbs_zero]; rfl
   rw [e, cond_true, show decide ((0 : Int) = 0) = true from rfl, cond_true]
   exact ⟨⟨rfl, .inl (Nat.le_refl _)⟩, ⟨rfl, .inl (Nat.le_refl _)⟩, rfl, True.intro⟩
  ·have hne : limbs b.natAbs ≠ [] := fun e => hz (by have := limbs_eq_nil.1 e; omega)
   have e : ((((limbs b.natAbs).length : Nat) : Int) == 0) = false := by
    have : (limbs b.natAbs).length ≠ 0 := fun e => hne (List.eq_nil_of_length_eq_zero e)
    simpa using this
   have ed : ((a.natAbs : Int) / (b.natAbs : Int)).toNat = a.natAbs / b.natAbs := by rw [← Int.natCast_ediv, Int.toNat_natCast]
   have em : ((a.natAbs : Int) % (b.natAbs : Int)).toNat = a.natAbs % b.natAbs := by rw [← Int.natCast_emod, Int.toNat_natCast]
   simp only [e, cond_false, wvl, ed, em, Int.toNat_natCast, show decide (b = 0) = false from decide_eq_false hz]
   obtain ⟨k1, k2⟩ := divmod_signs a b hz rfl rfl
   have hq : (a / b).natAbs < 2 ^ n := Nat.lt_of_le_of_lt (natAbs_ediv a b) ha
   have hr : (a % b).natAbs < 2 ^ m := Nat.lt_of_lt_of_le (natAbs_emod hz) (by omega)
   have hx : a.natAbs / b.natAbs < 2 ^ n := Nat.lt_of_le_of_lt (Nat.div_le_self ..) ha
   have hy : a.natAbs % b.natAbs < 2 ^ m := Nat.lt_of_lt_of_le (Nat.mod_lt _ (by omega)) (by omega)
   have l3 := limbs_len_bits hx
   have l4 := limbs_len_bits hy
   have hs : -1 ≤ sgn b ∧ sgn b ≤ 1 := by unfold sgn; (repeat' split) <;> omega
   refine ⟨⟨True.intro, True.intro, fun e => hne e, by omega, by omega⟩, ⟨limbs_wd _, by omega⟩, ⟨limbs_wd _, by omega⟩, ?_⟩
   rw [Bool.cond_decide]
   split
   ·rename_i hc
    obtain ⟨k3, k4⟩ := k1 hc
    rw [k3, k4]
    exact ⟨by omega, by omega, by omega, by omega, ⟨rfl, .inr hq⟩, ⟨rfl, .inr hr⟩, (by and_intros <;> first | exact True.intro | rfl | omega)⟩
   ·rename_i hc
    obtain ⟨k3, k4⟩ := k2 hc
    rw [k3, k4]
    exact ⟨⟨rfl, .inr hq⟩, ⟨rfl, .inr hr⟩, (by and_intros <;> first | exact True.intro | rfl | omega)⟩
 ·simp at h
def c_divmod : Ctr Tryz.prog := ⟨91, s_divmod, fun args w => Tryz.call91 args w, fn_ok_facts mix Tryz.func91 s_divmod p_divmod⟩
def Ctr.weaken {P : Program} (c : Ctr P) (spec : FSpec) (h : ∀ ms p r, spec ms = some (p, r) → p.holds → ∃ p' r', c.spec ms = some (p', r') ∧ p'.holds ∧ ∀ ct w e, r'.holds ct w e → r.holds ct w e) : Ctr P :=
 ⟨c.f, spec, c.call, fun S w ms args p r hs hp hS hG ha => by
  obtain ⟨p', r', h1, h2, h3⟩ := h ms p r hs hp
  exact (c.ok S w ms args p' r' h1 h2 hS hG ha).mono fun e w' ⟨q1, q2⟩ => ⟨q1, h3 _ _ _ q2⟩⟩
def s_divmod1 : FSpec
 | [.big a n, .big b m] => some (some (n ≤ 900000 ∧ m ≤ 900000 ∧ b ≠ 0), .ret (.tup [.big (a / b) n, .big (a % b) m, .int .i64 0]))
 | _ => none
theorem w_divmod1 : ∀ ms p r, s_divmod1 ms = some (p, r) → p.holds → ∃ p' r', c_divmod.spec ms = some (p', r') ∧ p'.holds ∧ ∀ ct w e, r'.holds ct w e → r.holds ct w e := by
 intro ms p r h hp
 unfold s_divmod1 at h
 split at h
 ·rename_i a n b m
  simp only [Option.some.injEq, Prod.mk.injEq] at h
  obtain ⟨rfl, rfl⟩ := h
  obtain ⟨h1, h2, h3⟩ : n ≤ 900000 ∧ m ≤ 900000 ∧ b ≠ 0 := hp
  refine ⟨_, _, rfl, ⟨h1, h2⟩, fun ct w e he => ?_⟩
  rw [show decide (b = 0) = false from decide_eq_false h3] at he
  exact he
 ·simp at h
def c_divmod1 : Ctr Tryz.prog := c_divmod.weaken s_divmod1 w_divmod1
def s_imod : FSpec
 | [.big a n, .big b m] => some (some (n ≤ 900000 ∧ m ≤ 900000 ∧ b ≠ 0), .ret (.big (a % b) m))
 | _ => none
theorem vc_imod (a b : Int) (n m : Nat) : ((n ≤ 900000 ∧ m ≤ 900000) ∧ bif decide (b = 0) then (0 : Int) = a % b ∧ ((0 : Nat) ≤ m ∨ Int.natAbs (0 : Int) < 2 ^ m) else a % b = a % b ∧ (m ≤ m ∨ Int.natAbs (a % b) < 2 ^ m)) = evFn (env [c_divmod] noAnn) Tryz.f126 [.big a n, .big b m] (MRes.sat (.ret (.big (a % b) m))) := by kernel_rfl
theorem p_imod : Good Tryz.f126 s_imod := by
 intro ms p r h hp
 unfold s_imod at h
 split at h
 ·rename_i a n b m
  simp only [Option.some.injEq, Prod.mk.injEq] at h
  obtain ⟨rfl, rfl⟩ := h
  obtain ⟨hn, hm, hb⟩ : n ≤ 900000 ∧ m ≤ 900000 ∧ b ≠ 0 := hp
  refine ⟨env [c_divmod] noAnn, ?_⟩
  rw [← vc_imod a b n m, show decide (b = 0) = false from decide_eq_false hb]
  exact ⟨⟨hn, hm⟩, rfl, .inl (Nat.le_refl _)⟩
 ·simp at h
def c_imod : Ctr Tryz.prog := ⟨126, s_imod, fun args w => Tryz.call126 args w, fn_ok mix Tryz.func126 s_imod p_imod⟩
/-! ### integer.Gcd -/
structure GcS where
 x : Int
 y : Int
structure GcI (a b : Int) (N : Nat) (s : GcS) : Prop where
 g : Int.gcd s.x s.y = Int.gcd a b
 hx : s.x.natAbs < 2 ^ N
 hy : s.y.natAbs < 2 ^ N
def a_igcd (a b : Int) (N : Nat) : Nat → MS → Option LoopAnn
 | 1, _ => some (.inv GcS (GcI a b N) (fun s => ⟨15, [(2, .bp 0 0), (3, .bp 1 0), (4, .bp 2 0)], [⟨false, .one (.big s.x N)⟩, ⟨false, .one (.big s.y N)⟩, ⟨false, .one (.big 0 0)⟩], 0⟩) (fun s => s.y.natAbs))
 | _, _ => none
def s_igcd : FSpec
 | [.big a n, .big b m] => some (some (n ≤ 900000 ∧ m ≤ 900000), .ret (.big (Int.gcd a b) (max n m)))
 | _ => none
theorem vc_igcd (a b : Int) (n m : Nat) : ((∃ i, GcI a b (max n m) i ∧ ((0 : Nat) = 0 ∧ (0 : Nat) = 0 ∧ (0 : Nat) = 0 ∧ True) ∧ LeB a (GcS.x i) n (max n m) ∧ LeB b (GcS.y i) m (max n m) ∧ LeB 0 0 0 0 ∧ True) ∧ ∀ (i : GcS), GcI a b (max n m) i → bif decide ((↑(List.length (limbs (Int.natAbs (GcS.y i)))) : Int) > 0) then (max n m ≤ 900000 ∧ max n m ≤ 900000 ∧ (GcS.y i = 0 → False)) ∧ ∃ j, GcI a b (max n m) j ∧ (((0 : Nat) = 0 ∧ (0 : Nat) = 0 ∧ (0 : Nat) = 0 ∧ True) ∧ LeB (GcS.y i) (GcS.x j) (max n m) (max n m) ∧ LeB (GcS.x i % GcS.y i) (GcS.y j) (max n m) (max n m) ∧ LeB 0 0 0 0 ∧ True) ∧ Int.natAbs (GcS.y j) < Int.natAbs (GcS.y i) else max n m ≤ 1000000 ∧ (↑(Int.natAbs (GcS.x i)) : Int) = (↑(Int.gcd a b) : Int) ∧ (max n m ≤ max n m ∨ Int.natAbs (↑(Int.natAbs (GcS.x i)) : Int) < 2 ^ max n m)) = evFn (env [c_imod, c_abs] (a_igcd a b (max n m))) Tryz.f110 [.big a n, .big b m] (MRes.sat (.ret (.big (Int.gcd a b) (max n m)))) := by kernel_rfl
theorem len_pos_iff (z : Int) : decide ((((limbs z.natAbs).length : Nat) : Int) > 0) = decide (z ≠ 0) := by
 by_cases h : z = 0
 ·subst h; rw [show (0 : Int).natAbs = 0 from rfl, limbs_zero]; rfl
 ·have : (limbs z.natAbs).length ≠ 0 := fun e => h (by have := limbs_eq_nil.1 (List.eq_nil_of_length_eq_zero e); omega)
  rw [decide_eq_true (by omega), decide_eq_true h]
theorem len_zero_iff (z : Int) : ((((limbs z.natAbs).length : Nat) : Int) == 0) = decide (z = 0) := by
 by_cases h : z = 0
 ·subst h; rw [show (0 : Int).natAbs = 0 from rfl, limbs_zero]; rfl
 ·have : (limbs z.natAbs).length ≠ 0 := fun e => h (by have := limbs_eq_nil.1 (List.eq_nil_of_length_eq_zero e); omega)
  rw [decide_eq_false h]
  simpa using this
theorem gcd_step (x y : Int) : Int.gcd y (x % y) = Int.gcd x y := by
 rw [Int.emod_def, Int.gcd_sub_mul_left_right, Int.gcd_comm]
theorem p_igcd : GoodF Tryz.f110 s_igcd := by
 intro ms p r h hp hf
 unfold s_igcd at h
 split at h
 ·rename_i a n b m
  simp only [Option.some.injEq, Prod.mk.injEq] at h
  obtain ⟨rfl, rfl⟩ := h
  obtain ⟨hn, hm⟩ : n ≤ 900000 ∧ m ≤ 900000 := hp
  have ha : a.natAbs < 2 ^ n := hf.1
  have hb : b.natAbs < 2 ^ m := hf.2.1
  have h1 : 2 ^ n ≤ 2 ^ max n m := Nat.pow_le_pow_right (by omega) (by omega)
  have h2 : 2 ^ m ≤ 2 ^ max n m := Nat.pow_le_pow_right (by omega) (by omega)
  have hM : max n m ≤ 900000 := by omega
  refine ⟨env [c_imod, c_abs] (a_igcd a b (max n m)), ?_⟩
  rw [← vc_igcd a b n m]
  refine ⟨⟨⟨a, b⟩, ⟨rfl, by show a.natAbs < _; omega, by show b.natAbs < _; omega⟩, (by and_intros <;> first | exact True.intro | rfl | omega), ⟨rfl, .inl (by omega)⟩, ⟨rfl, .inl (by omega)⟩, ⟨rfl, .inl (Nat.le_refl _)⟩, True.intro⟩, ?_⟩
  rintro ⟨x, y⟩ ⟨hg, hx, hy⟩
  rw [len_pos_iff, Bool.cond_decide]
  split
  ·rename_i hne
   have hne : y ≠ 0 := hne
   have hl := natAbs_emod (a := x) hne
   have hy : y.natAbs < 2 ^ max n m := hy
   refine ⟨⟨hM, hM, hne⟩, ⟨y, x % y⟩, ⟨by rw [← hg]; exact gcd_step x y, hy, by show (x % y).natAbs < _; omega⟩, ⟨(by and_intros <;> first | exact True.intro | rfl | omega), ⟨rfl, .inl (Nat.le_refl _)⟩, ⟨rfl, .inl (Nat.le_refl _)⟩, ⟨rfl, .inl (Nat.le_refl _)⟩, True.intro⟩, hl⟩
  ·rename_i hne
   have hz : y = 0 := by
    by_cases e : y = 0
    ·exact e
    ·exact absurd e hne
   subst hz
   refine ⟨by omega, ?_, .inl (Nat.le_refl _)⟩
   have hg : Int.gcd x 0 = Int.gcd a b := hg
   rw [Int.gcd_zero_right] at hg
   show (x.natAbs : Int) = _
   rw [hg]
 ·simp at h
def c_igcd : Ctr Tryz.prog := ⟨110, s_igcd, fun args w => Tryz.call110 args w, fn_ok_facts mix Tryz.func110 s_igcd p_igcd⟩
/-! ### integer.Bezout -/
structure BzU (a b u : Int) : Prop where
 u0 : 0 ≤ u
 u1 : u < ((b / (Int.gcd a b : Int)).natAbs : Int)
 dv : b ∣ (Int.gcd a b : Int) - u * a
open Classical in
noncomputable def bzu (a b : Int) : Int := if h : ∃ u, BzU a b u then Classical.choose h else 0
theorem dvd_of_coprime {k n m : Int} (h : Int.gcd k n = 1) (hd : k ∣ n * m) : k ∣ m := by
 have := Int.dvd_gcd_mul_iff_dvd_mul.2 hd
 rw [h] at this
 simpa using this
theorem BzU.unique {a b u v : Int} (hb : b ≠ 0) (hu : BzU a b u) (hv : BzU a b v) : u = v := by
 have hg0 : (Int.gcd a b : Int) ≠ 0 := by
  intro e
  have : Int.gcd a b = 0 := by omega
  exact hb (Int.gcd_eq_zero_iff.1 this).2
 obtain ⟨a', ha'⟩ := Int.gcd_dvd_left a b
 obtain ⟨b', hb'⟩ := Int.gcd_dvd_right a b
 generalize hg : (Int.gcd a b : Int) = g at *
 have hq : b / g = b' := by rw [hb', Int.mul_ediv_cancel_left _ hg0]
 have h1 : b ∣ (v - u) * a := by
  have := Int.dvd_sub hu.dv hv.dv
  rw [hg] at this
  have e : g - u * a - (g - v * a) = (v - u) * a := by rw [Int.sub_mul]; omega
  rwa [e] at this
 have hcop : Int.gcd b' a' = 1 := by
  have : Int.gcd (g * a') (g * b') = g.natAbs * Int.gcd a' b' := Int.gcd_mul_left ..
  rw [← ha', ← hb'] at this
  have hgn : Int.gcd a b = g.natAbs := by omega
  rw [hgn] at this
  rw [Int.gcd_comm]
  exact Nat.eq_of_mul_eq_mul_left (show 0 < g.natAbs by omega) (by omega)
 have h2 : b' ∣ a' * (v - u) := by
  obtain ⟨k, hk⟩ := h1
  refine ⟨k, Int.eq_of_mul_eq_mul_left hg0 ?_⟩
  rw [← Int.mul_assoc, ← Int.mul_assoc, ← ha', ← hb', Int.mul_comm a]; exact hk
 have h3 := dvd_of_coprime hcop h2
 have l1 := hu.u0
 have l2 := hu.u1
 have l3 := hv.u0
 have l4 := hv.u1
 rw [hg, hq] at l2 l4
 obtain ⟨k, hk⟩ := h3
 have hk0 : k = 0 := by
  rcases Int.lt_trichotomy k 0 with q | q | q
  ·exfalso
   have := Int.natAbs_mul b' k
   have h5 : b'.natAbs * 1 ≤ b'.natAbs * k.natAbs := Nat.mul_le_mul_left _ (by omega)
   rw [← hk] at this
   omega
  ·exact q
  ·exfalso
   have := Int.natAbs_mul b' k
   have h5 : b'.natAbs * 1 ≤ b'.natAbs * k.natAbs := Nat.mul_le_mul_left _ (by omega)
   rw [← hk] at this
   omega
 rw [hk0, Int.mul_zero] at hk
 omega
theorem BzU.eq {a b u : Int} (hb : b ≠ 0) (hu : BzU a b u) : u = bzu a b := by
 have h : ∃ u, BzU a b u := ⟨u, hu⟩
 unfold bzu
 rw [dif_pos h]
 exact hu.unique hb (Classical.choose_spec h)
structure BzS where
 g : Int
 x : Int
 u : Int
 v : Int
structure BzI (a b : Int) (s : BzS) : Prop where
 g0 : 0 < s.g ∧ s.g ≤ b.natAbs
 x0 : 0 ≤ s.x ∧ s.x ≤ b.natAbs
 gc : Int.gcd s.g s.x = Int.gcd a b
 du : b ∣ s.g - s.u * a
 dv : b ∣ s.x - s.v * a
 sg : (s.v * s.g - s.u * s.x = b.natAbs ∧ 0 ≤ s.v ∧ s.u ≤ 0) ∨ (s.u * s.x - s.v * s.g = b.natAbs ∧ s.v ≤ 0 ∧ 0 ≤ s.u)
 bu : s.u.natAbs ≤ b.natAbs
 bv : s.v.natAbs ≤ b.natAbs
theorem BzI.init {a b : Int} (hb : b ≠ 0) : BzI a b ⟨b.natAbs, a % b, 0, 1⟩ := by
 have h1 := natAbs_emod (a := a) hb
 have h2 := Int.emod_nonneg a hb
 refine ⟨by show (0 : Int) < b.natAbs ∧ (b.natAbs : Int) ≤ b.natAbs; omega, by show 0 ≤ a % b ∧ a % b ≤ _; omega, ?_, ?_, ?_, .inl ⟨?_, by show (0 : Int) ≤ 1; omega, by show (0 : Int) ≤ 0; omega⟩, by show (0 : Int).natAbs ≤ _; omega, by show (1 : Int).natAbs ≤ _; omega⟩
 ·show Int.gcd (b.natAbs : Int) (a % b) = _
  have : Int.gcd (b.natAbs : Int) (a % b) = Int.gcd b (a % b) := by simp [Int.gcd]
  rw [this]; exact gcd_step a b
 ·show b ∣ (b.natAbs : Int) - 0 * a
  rw [Int.zero_mul, Int.sub_zero]; exact Int.dvd_natAbs.2 (Int.dvd_refl b)
 ·show b ∣ a % b - 1 * a
  rw [Int.one_mul, Int.emod_def]
  exact ⟨-(a / b), by rw [Int.mul_neg]; omega⟩
 ·show 1 * (b.natAbs : Int) - 0 * _ = _
  omega
theorem BzI.step {a b : Int} {s : BzS} (h : BzI a b s) (hx : s.x ≠ 0) : BzI a b ⟨s.x, s.g % s.x, s.v, s.u - s.g / s.x * s.v⟩ := by
 have hx0 := h.x0
 have hg0 := h.g0
 have hm0 := Int.emod_nonneg s.g hx
 have hm1 := Int.emod_lt_of_pos s.g (show 0 < s.x by omega)
 have hq := Int.mul_ediv_add_emod s.g s.x
 have hq0 : 0 ≤ s.g / s.x := Int.ediv_nonneg (by omega) (by omega)
 have hsg := h.sg
 have hdu := h.du
 have hdv := h.dv
 have gs : Int.gcd s.x (s.g % s.x) = Int.gcd a b := by rw [← h.gc]; exact gcd_step s.g s.x
 have em : s.g % s.x = s.g - s.x * (s.g / s.x) := Int.emod_def ..
 obtain ⟨g, x, u, v⟩ := s
 simp only at *
 generalize g / x = q at *
 generalize g % x = r at *
 subst em
 have hsg2 : ((u - q * v) * x - v * (g - x * q) = b.natAbs ∧ 0 ≤ u - q * v ∧ v ≤ 0) ∨ (v * (g - x * q) - (u - q * v) * x = b.natAbs ∧ u - q * v ≤ 0 ∧ 0 ≤ v) := by
  rcases hsg with ⟨h1, h2, h3⟩ | ⟨h1, h2, h3⟩
  ·refine .inr ⟨by rw [← h1]; grind, ?_, h2⟩
   have := Int.mul_nonneg hq0 h2
   omega
  ·refine .inl ⟨by rw [← h1]; grind, ?_, h2⟩
   have := Int.mul_nonpos_of_nonneg_of_nonpos hq0 h2
   omega
 have hbv : (u - q * v).natAbs ≤ b.natAbs := by
  rcases hsg2 with ⟨h1, h2, h3⟩ | ⟨h1, h2, h3⟩
  ·have k1 := Int.mul_nonpos_of_nonpos_of_nonneg h3 hm0
   have k2 : (u - q * v) * 1 ≤ (u - q * v) * x := Int.mul_le_mul_of_nonneg_left (by omega) h2
   omega
  ·have k1 := Int.mul_nonneg h3 hm0
   have k2 : (u - q * v) * x ≤ (u - q * v) * 1 := Int.mul_le_mul_of_nonpos_left h2 (by omega)
   omega
 refine ⟨by show 0 < x ∧ x ≤ _; omega, by show 0 ≤ g - x * q ∧ g - x * q ≤ _; omega, gs, hdv, ?_, hsg2, h.bv, hbv⟩
 ·show b ∣ g - x * q - (u - q * v) * a
  have e : g - x * q - (u - q * v) * a = (g - u * a) - q * (x - v * a) := by grind
  rw [e]
  exact Int.dvd_sub hdu (Int.dvd_mul_of_dvd_right hdv)
theorem BzI.fin {a b : Int} (hb : b ≠ 0) {s : BzS} (h : BzI a b s) (hx : s.x = 0) : s.g = Int.gcd a b ∧ b / s.g ≠ 0 ∧ s.u % (b / s.g) = bzu a b ∧ (b / s.g).natAbs ≤ b.natAbs ∧ (bzu a b).natAbs < (b / s.g).natAbs := by
 have hg0 := h.g0
 have hg : s.g = Int.gcd a b := by
  have := h.gc
  rw [hx, Int.gcd_zero_right] at this
  omega
 obtain ⟨a', ha'⟩ := Int.gcd_dvd_left a b
 obtain ⟨b', hb'⟩ := Int.gcd_dvd_right a b
 rw [← hg] at ha' hb'
 have hq : b / s.g = b' := by rw [hb', Int.mul_ediv_cancel_left _ (by omega)]
 have hb0 : b' ≠ 0 := by intro e; rw [e, Int.mul_zero] at hb'; exact hb hb'
 have hm0 := Int.emod_nonneg s.u hb0
 have hm1 := Int.emod_lt s.u hb0
 have e : s.u % b' = bzu a b := by
  refine BzU.eq hb ⟨hm0, by rw [← hg, hq]; omega, ?_⟩
  rw [← hg, Int.emod_def]
  have e : s.g - (s.u - b' * (s.u / b')) * a = (s.g - s.u * a) + b * (a' * (s.u / b')) := by
   have : b * (a' * (s.u / b')) = b' * (s.u / b') * a := by
    rw [hb']
    conv => rhs; rw [ha']
    generalize s.u / b' = k
    grind
   rw [this, Int.sub_mul]; omega
  rw [e]
  exact Int.dvd_add h.du (Int.dvd_mul_right ..)
 rw [hq]
 refine ⟨hg, hb0, e, ?_, by rw [← e]; omega⟩
 have : b.natAbs = s.g.natAbs * b'.natAbs := by
  conv => lhs; rw [hb']
  exact Int.natAbs_mul ..
 have h5 : 1 * b'.natAbs ≤ s.g.natAbs * b'.natAbs := Nat.mul_le_mul_right _ (by omega)
 omega
end Go.Proofs.YtnfmjlhkknndhaaGreat
/-
 Contracts of functions: the reference of layer 1: words, comparisons, signs.
-/
namespace Go.Proofs.YtnfmjlhkknndhaaGreat
open Go Go.RowKit
/-! ### trim, made -/
def a_rtrim (l : List Int) : Nat → MS → Option LoopAnn
 | 1, _ => some (.inv Nat (fun k => k ≤ l.length ∧ wv (l.take k) = wv l) (fun k => ⟨21, [(0, .ws (l.take k))], [], 0⟩) id)
 | _, _ => none
theorem vc_rtrim (l : List Int) : ((∃ i, (i ≤ List.length l ∧ wv (List.take i l) = wv l) ∧ (l = List.take i l ∧ True) ∧ True) ∧ ∀ (i : Nat), i ≤ List.length l ∧ wv (List.take i l) = wv l → bif decide ((↑(List.length (List.take i l)) : Int) > 0) then ((0 : Int) ≤ IntKind.wrap IntKind.i64 ((↑(List.length (List.take i l)) : Int) - 1) ∧ IntKind.wrap IntKind.i64 ((↑(List.length (List.take i l)) : Int) - 1) < (↑(List.length (List.take i l)) : Int)) ∧ bif List.getD (List.take i l) (Int.toNat (IntKind.wrap IntKind.i64 ((↑(List.length (List.take i l)) : Int) - 1))) (0 : Int) == 0 then ((0 : Int) ≤ IntKind.wrap IntKind.i64 ((↑(List.length (List.take i l)) : Int) - 1) ∧ IntKind.wrap IntKind.i64 ((↑(List.length (List.take i l)) : Int) - 1) ≤ (↑(List.length (List.take i l)) : Int)) ∧ ∃ j, (j ≤ List.length l ∧ wv (List.take j l) = wv l) ∧ ((List.take (Int.toNat (IntKind.wrap IntKind.i64 ((↑(List.length (List.take i l)) : Int) - 1))) (List.take i l) = List.take j l ∧ True) ∧ True) ∧ id j < id i else List.take i l = limbs (Int.toNat (wv l)) else List.take i l = limbs (Int.toNat (wv l))) = evFn (env [] (a_rtrim l)) Tryz.f107 [.ws l] (MRes.sat (.ret (.ws (limbs (wv l).toNat)))) := by kernel_rfl
theorem p_rtrim : Good Tryz.f107 s_trim := by
 intro ms p r h hp
 unfold s_trim at h
 split at h
 ·rename_i l
  simp only [Option.some.injEq, Prod.mk.injEq] at h
  obtain ⟨rfl, rfl⟩ := h
  obtain ⟨hw, hlen⟩ : Wd l ∧ l.length ≤ 1099511627776 := hp
  refine ⟨_, cast (vc_rtrim l) ⟨⟨l.length, ⟨Nat.le_refl _, by rw [List.take_length]⟩, ⟨by rw [List.take_length], trivial⟩, trivial⟩, fun i ⟨hi, hv⟩ => ?_⟩⟩
  have hl : (l.take i).length = i := by simp [hi]
  have hlim : i = 0 ∨ (l.take i).getLast? ≠ some 0 → l.take i = limbs (wv l).toNat := by
   intro h
   rw [← hv]
   refine (limbs_wv (hw.take i) fun hne e => ?_).symm
   rcases h with h | h
   ·subst h; exact hne rfl
   ·exact h (by rw [List.getLast?_eq_some_getLast hne, e])
  rw [hl, Bool.cond_decide]
  split
  ·rename_i h0
   have hi1 : i - 1 < l.length := by omega
   have e1 : IntKind.i64.wrap ((i : Int) - 1) = i - 1 := i64w (by omega) (by omega)
   have e2 : ((i : Int) - 1).toNat = i - 1 := by omega
   rw [e1, e2]
   have hs : l.take i = l.take (i - 1) ++ [l.getD (i - 1) 0] := by
    have := take_snoc hi1
    rwa [show i - 1 + 1 = i by omega] at this
   have hg : (l.take i).getD (i - 1) 0 = l.getD (i - 1) 0 := by
    simp [show i - 1 < i by omega]
   rw [hg]
   refine ⟨by omega, ?_⟩
   cases hz : (l.getD (i - 1) 0 == 0) with
   | true =>
    simp only [beq_iff_eq] at hz
    rw [hz] at hs
    refine ⟨by omega, i - 1, ⟨by omega, ?_⟩, ⟨⟨?_, trivial⟩, trivial⟩, by show i - 1 < i; omega⟩
    ·rw [← hv, hs, wv_append]; simp [wv]
    ·rw [List.take_take]; congr 1; omega
   | false =>
    rw [cond_false]
    refine hlim (.inr ?_)
    rw [hs]
    simpa using hz
  ·exact hlim (.inl (by omega))
 ·simp at h
def c_rtrim : Ctr Tryz.prog := ⟨107, s_trim, fun args w => Tryz.call107 args w, fn_ok mix Tryz.func107 s_trim p_rtrim⟩
theorem vc_rmade (b : Bool) (l : List Int) : (((∀ (x : Int), x ∈ l → (0 : Int) ≤ x ∧ x < 4294967296) ∧ List.length l ≤ 1099511627776) ∧ bif (↑(List.length (limbs (Int.toNat (wv l)))) : Int) == 0 then (0 : Int) = sg b (wv l) ∧ ((0 : Nat) ≤ 32 * List.length l ∨ Int.natAbs (0 : Int) < 2 ^ ((32 : Nat) * List.length l)) else b = decide (sg b (wv l) < 0) ∧ limbs (Int.toNat (wv l)) = limbs (Int.natAbs (sg b (wv l))) ∧ Int.natAbs (sg b (wv l)) < 2 ^ ((32 : Nat) * List.length l)) = evFn (env [c_rtrim] noAnn) Tryz.f72 [.bool b, .ws l] (MRes.sat (.ret (.big (sg b (wv l)) (32 * l.length)))) := by kernel_rfl
theorem p_rmade : Good Tryz.f72 s_of := by
 intro ms p r h hp
 unfold s_of at h
 split at h
 ·rename_i b l
  simp only [Option.some.injEq, Prod.mk.injEq] at h
  obtain ⟨rfl, rfl⟩ := h
  obtain ⟨hw, hl⟩ : Wd l ∧ l.length ≤ 1000000000 := hp
  refine ⟨env [c_rtrim] noAnn, ?_⟩
  rw [← vc_rmade b l]
  have h0 := wv_nonneg hw
  have hlen := limbs_len_le (n := (wv l).toNat) (k := l.length) (by
   have h1 := wv_lt hw
   have e : ((4294967296 ^ l.length : Nat) : Int) = (4294967296 : Int) ^ l.length := by simp [Int.natCast_pow]
   omega)
  refine ⟨⟨hw, by omega⟩, ?_⟩
  by_cases hz : wv l = 0
  ·rw [hz]
   have : ((((limbs (0 : Int).toNat).length : Nat) : Int) == 0) = true := by rw [show (0 : Int).toNat = 0 from rfl, limbs_zero]; rfl
   rw [this, cond_true]
   exact ⟨by cases b <;> rfl, .inl (Nat.zero_le _)⟩
  ·have hne : (limbs (wv l).toNat).length ≠ 0 := fun e => by
    have := limbs_eq_nil.1 (List.eq_nil_of_length_eq_zero e)
    omega
   have : ((((limbs (wv l).toNat).length : Nat) : Int) == 0) = false := by simpa using hne
   rw [this, cond_false, natAbs_sg]
   refine ⟨?_, by rw [show (wv l).natAbs = (wv l).toNat by omega], len_of_wv hw⟩
   cases b
   ·exact (decide_eq_false (show ¬ wv l < 0 by omega)).symm
   ·exact (decide_eq_true (show -wv l < 0 by omega)).symm
 ·simp at h
def c_rmade : Ctr Tryz.prog := ⟨72, s_of, fun args w => Tryz.call72 args w, fn_ok mix Tryz.func72 s_of p_rmade⟩
/-! ### word -/
def wdg (l : List Int) (i : Int) : Int := if 0 ≤ i then l.getD i.toNat 0 else 0
theorem wdg_nat (l : List Int) (i : Nat) : wdg l (i : Int) = l.getD i 0 := by unfold wdg; rw [if_pos (by omega), Int.toNat_natCast]
theorem wdg_wd {l : List Int} (h : Wd l) (i : Int) : 0 ≤ wdg l i ∧ wdg l i < 4294967296 := by
 unfold wdg
 split
 ·exact h.getD _
 ·omega
def s_rword : FSpec
 | [.ws l, .int .i64 i] => some (some (Wd l), .ret (.int .u64 (wdg l i)))
 | _ => none
theorem vc_rword (l : List Int) (i : Int) : (bif decide (i < 0) then (0 : Int) = wdg l i else bif decide (i ≥ (↑(List.length l) : Int)) then (0 : Int) = wdg l i else ((0 : Int) ≤ i ∧ i < (↑(List.length l) : Int)) ∧ IntKind.wrap IntKind.u64 (List.getD l (Int.toNat i) (0 : Int)) = wdg l i) = evFn (env [] noAnn) Tryz.f111 [.ws l, .int .i64 i] (MRes.sat (.ret (.int .u64 (wdg l i)))) := by kernel_rfl
theorem p_rword : Good Tryz.f111 s_rword := by
 intro ms p r h hp
 unfold s_rword at h
 split at h
 ·rename_i l i
  simp only [Option.some.injEq, Prod.mk.injEq] at h
  obtain ⟨rfl, rfl⟩ := h
  have hw : Wd l := hp
  refine ⟨env [] noAnn, ?_⟩
  rw [← vc_rword l i]
  simp only [Bool.cond_decide]
  split
  ·unfold wdg; rw [if_neg (by omega)]
  ·split
   ·unfold wdg; rw [if_pos (by omega)]
    simp [List.getElem?_eq_none (show l.length ≤ i.toNat by omega)]
   ·unfold wdg
    rw [if_pos (by omega)]
    exact ⟨by omega, eu64 (by have := hw.getD i.toNat; omega)⟩
 ·simp at h
def c_rword : Ctr Tryz.prog := ⟨111, s_rword, fun args w => Tryz.call111 args w, fn_ok mix Tryz.func111 s_rword p_rword⟩
/-! ### size, Cmp, Same -/
def a_rsize (a b : List Int) : Nat → MS → Option LoopAnn
 | 6, _ => some (.inv Nat (fun k => k ≤ a.length ∧ a.drop k = b.drop k) (fun k => ⟨41, [(0, .ws a), (1, .ws b), (5, .int .i64 ((k : Int) - 1))], [], 0⟩) id)
 | _, _ => none
theorem vc_rsize (a b : List Int) : (bif (↑(List.length a) : Int) != (↑(List.length b) : Int) then bif decide ((↑(List.length a) : Int) < (↑(List.length b) : Int)) then (-1 : Int) = icmp (wv a) (wv b) else (1 : Int) = icmp (wv a) (wv b) else (∃ i, (i ≤ List.length a ∧ List.drop i a = List.drop i b) ∧ (a = a ∧ b = b ∧ IntKind.wrap IntKind.i64 ((↑(List.length a) : Int) - 1) = (↑i : Int) - 1 ∧ True) ∧ True) ∧ ∀ (i : Nat), i ≤ List.length a ∧ List.drop i a = List.drop i b → bif decide ((↑i : Int) - 1 ≥ 0) then ((0 : Int) ≤ (↑i : Int) - 1 ∧ (↑i : Int) - 1 < (↑(List.length a) : Int)) ∧ ((0 : Int) ≤ (↑i : Int) - 1 ∧ (↑i : Int) - 1 < (↑(List.length b) : Int)) ∧ bif decide (List.getD a (Int.toNat ((↑i : Int) - 1)) (0 : Int) < List.getD b (Int.toNat ((↑i : Int) - 1)) (0 : Int)) then (-1 : Int) = icmp (wv a) (wv b) else ((0 : Int) ≤ (↑i : Int) - 1 ∧ (↑i : Int) - 1 < (↑(List.length a) : Int)) ∧ ((0 : Int) ≤ (↑i : Int) - 1 ∧ (↑i : Int) - 1 < (↑(List.length b) : Int)) ∧ bif decide (List.getD a (Int.toNat ((↑i : Int) - 1)) (0 : Int) > List.getD b (Int.toNat ((↑i : Int) - 1)) (0 : Int)) then (1 : Int) = icmp (wv a) (wv b) else ∃ j, (j ≤ List.length a ∧ List.drop j a = List.drop j b) ∧ ((a = a ∧ b = b ∧ IntKind.wrap IntKind.i64 ((↑i : Int) - 1 - 1) = (↑j : Int) - 1 ∧ True) ∧ True) ∧ id j < id i else (0 : Int) = icmp (wv a) (wv b)) = evFn (env [] (a_rsize a b)) Tryz.f81 [.ws a, .ws b] (MRes.sat (.ret (.int .i64 (icmp (wv a) (wv b))))) := by kernel_rfl
theorem p_rsize : Good Tryz.f81 s_ncmp := by
 intro ms p r h hp
 unfold s_ncmp at h
 split at h
 ·rename_i a b
  simp only [Option.some.injEq, Prod.mk.injEq] at h
  obtain ⟨rfl, rfl⟩ := h
  obtain ⟨ha, hb, la, lb⟩ : Cn a ∧ Cn b ∧ a.length ≤ 1099511627776 ∧ b.length ≤ 1099511627776 := hp
  refine ⟨env [] (a_rsize a b), ?_⟩
  rw [← vc_rsize a b]
  cases hc : ((a.length : Int) != (b.length : Int)) with
  | true =>
   have hne : (a.length : Int) ≠ b.length := by simpa using hc
   rw [cond_true, Bool.cond_decide]
   split
   ·exact (icmp_lt (wv_lt_of_len ha.wd hb (by omega))).symm
   ·exact (icmp_gt (wv_lt_of_len hb.wd ha (by omega))).symm
  | false =>
   rw [cond_false]
   have heq : a.length = b.length := by
    have : (a.length : Int) = b.length := by simpa using hc
    omega
   refine ⟨⟨a.length, ⟨Nat.le_refl _, by rw [List.drop_length, heq, List.drop_length]⟩, ⟨rfl, rfl, i64w (by omega) (by omega), True.intro⟩, True.intro⟩, fun i ⟨hi, hd⟩ => ?_⟩
   simp only [Bool.cond_decide]
   split
   ·rename_i h0
    have e2 : ((i : Int) - 1).toNat = i - 1 := by omega
    rw [e2]
    have hd' : a.drop (i - 1 + 1) = b.drop (i - 1 + 1) := by rw [show i - 1 + 1 = i by omega]; exact hd
    refine ⟨by omega, by omega, ?_⟩
    split
    ·rename_i h
     exact (icmp_lt (wv_decide ha.wd hb.wd (by omega) (by omega) hd' h)).symm
    ·refine ⟨by omega, by omega, ?_⟩
     split
     ·rename_i h
      exact (icmp_gt (wv_decide hb.wd ha.wd (by omega) (by omega) hd'.symm h)).symm
     ·have he : a.getD (i - 1) 0 = b.getD (i - 1) 0 := by omega
      refine ⟨i - 1, ⟨by omega, ?_⟩, ⟨⟨(by and_intros <;> first | exact True.intro | rfl | omega), (by and_intros <;> first | exact True.intro | rfl | omega), ?_, True.intro⟩, True.intro⟩, by show i - 1 < i; omega⟩
      ·rw [drop_cons (l := a) (by omega), drop_cons (l := b) (by omega), he, hd']
      ·rw [i64w (by omega) (by omega)]; omega
   ·have : i = 0 := by omega
    subst this
    rw [List.drop_zero, List.drop_zero] at hd
    rw [hd, icmp_same]
 ·simp at h
def c_rsize : Ctr Tryz.prog := ⟨81, s_ncmp, fun args w => Tryz.call81 args w, fn_ok mix Tryz.func81 s_ncmp p_rsize⟩
def s_rsame : FSpec
 | [.big a n, .big b m] => some (some (n ≤ 1000000 ∧ m ≤ 1000000), .ret (.bool (decide (a = b))))
 | _ => none
theorem vc_rsame (a b : Int) (n m : Nat) : (bif decide (a < 0) == decide (b < 0) then (limbs (Int.toNat (wv (limbs (Int.natAbs a)))) = limbs (Int.natAbs a) ∧ limbs (Int.toNat (wv (limbs (Int.natAbs b)))) = limbs (Int.natAbs b) ∧ List.length (limbs (Int.natAbs a)) ≤ 1099511627776 ∧ List.length (limbs (Int.natAbs b)) ≤ 1099511627776) ∧ (icmp (wv (limbs (Int.natAbs a))) (wv (limbs (Int.natAbs b))) == 0) = decide (a = b) else false = decide (a = b)) = evFn (env [c_rsize] noAnn) Tryz.f35 [.big a n, .big b m] (MRes.sat (.ret (.bool (decide (a = b))))) := by kernel_rfl
theorem p_rsame : GoodF Tryz.f35 s_rsame := by
 intro ms p r h hp hf
 unfold s_rsame at h
 split at h
 ·rename_i a n b m
  simp only [Option.some.injEq, Prod.mk.injEq] at h
  obtain ⟨rfl, rfl⟩ := h
  obtain ⟨hn, hm⟩ : n ≤ 1000000 ∧ m ≤ 1000000 := hp
  have ha : a.natAbs < 2 ^ n := hf.1
  have hb : b.natAbs < 2 ^ m := hf.2.1
  have l1 := lim_len ha (by omega)
  have l2 := lim_len hb (by omega)
  refine ⟨env [c_rsize] noAnn, ?_⟩
  rw [← vc_rsame a b n m, wvl, wvl, Int.toNat_natCast, Int.toNat_natCast]
  have e : (icmp (a.natAbs : Int) (b.natAbs : Int) == 0) = decide (a.natAbs = b.natAbs) := by
   have := icmp_zero (a := (a.natAbs : Int)) (b := (b.natAbs : Int))
   by_cases h : a.natAbs = b.natAbs
   ·rw [decide_eq_true h]; simp only [beq_iff_eq]; exact this.2 (by omega)
   ·rw [decide_eq_false h]
    simp only [beq_eq_false_iff_ne]
    exact fun e => h (by have := this.1 e; omega)
  rw [e]
  cases hs : (decide (a < 0) == decide (b < 0)) with
  | true =>
   rw [cond_true]
   have hs : (a < 0) = (b < 0) := by simpa [beq_iff_eq] using hs
   have hs : a < 0 ↔ b < 0 := by rw [hs]
   exact ⟨⟨rfl, rfl, by omega, by omega⟩, decide_eq_decide.2 (by omega)⟩
  | false =>
   rw [cond_false]
   have hne : a ≠ b := by intro e; subst e; simp at hs
   exact (decide_eq_false hne).symm
 ·simp at h
def c_rsame : Ctr Tryz.prog := ⟨35, s_rsame, fun args w => Tryz.call35 args w, fn_ok_facts mix Tryz.func35 s_rsame p_rsame⟩
theorem vc_rof (z : Int) : (bif decide (z < 0) then (0 : Int) ≤ 32 ∧ ((0 : Nat) + 2 ≤ List.length [IntKind.wrap IntKind.u32 (IntKind.wrap IntKind.u64 ((0 : Int) - IntKind.wrap IntKind.u64 z)), IntKind.wrap IntKind.u32 (Int.fdiv (IntKind.wrap IntKind.u64 ((0 : Int) - IntKind.wrap IntKind.u64 z)) ((2 : Int) ^ min (Int.toNat (32 : Int)) (IntKind.bits IntKind.u64)))] ∧ (∀ (x : Int), x ∈ List.take (2 : Nat) (List.drop (0 : Nat) [IntKind.wrap IntKind.u32 (IntKind.wrap IntKind.u64 ((0 : Int) - IntKind.wrap IntKind.u64 z)), IntKind.wrap IntKind.u32 (Int.fdiv (IntKind.wrap IntKind.u64 ((0 : Int) - IntKind.wrap IntKind.u64 z)) ((2 : Int) ^ min (Int.toNat (32 : Int)) (IntKind.bits IntKind.u64)))]) → (0 : Int) ≤ x ∧ x < 4294967296) ∧ List.length (List.take (2 : Nat) (List.drop (0 : Nat) [IntKind.wrap IntKind.u32 (IntKind.wrap IntKind.u64 ((0 : Int) - IntKind.wrap IntKind.u64 z)), IntKind.wrap IntKind.u32 (Int.fdiv (IntKind.wrap IntKind.u64 ((0 : Int) - IntKind.wrap IntKind.u64 z)) ((2 : Int) ^ min (Int.toNat (32 : Int)) (IntKind.bits IntKind.u64)))])) ≤ 1000000000) ∧ sg (decide (z < 0)) (wv (List.take (2 : Nat) (List.drop (0 : Nat) [IntKind.wrap IntKind.u32 (IntKind.wrap IntKind.u64 ((0 : Int) - IntKind.wrap IntKind.u64 z)), IntKind.wrap IntKind.u32 (Int.fdiv (IntKind.wrap IntKind.u64 ((0 : Int) - IntKind.wrap IntKind.u64 z)) ((2 : Int) ^ min (Int.toNat (32 : Int)) (IntKind.bits IntKind.u64)))]))) = z ∧ ((32 : Nat) * List.length (List.take (2 : Nat) (List.drop (0 : Nat) [IntKind.wrap IntKind.u32 (IntKind.wrap IntKind.u64 ((0 : Int) - IntKind.wrap IntKind.u64 z)), IntKind.wrap IntKind.u32 (Int.fdiv (IntKind.wrap IntKind.u64 ((0 : Int) - IntKind.wrap IntKind.u64 z)) ((2 : Int) ^ min (Int.toNat (32 : Int)) (IntKind.bits IntKind.u64)))])) ≤ 64 ∨ Int.natAbs (sg (decide (z < 0)) (wv (List.take (2 : Nat) (List.drop (0 : Nat) [IntKind.wrap IntKind.u32 (IntKind.wrap IntKind.u64 ((0 : Int) - IntKind.wrap IntKind.u64 z)), IntKind.wrap IntKind.u32 (Int.fdiv (IntKind.wrap IntKind.u64 ((0 : Int) - IntKind.wrap IntKind.u64 z)) ((2 : Int) ^ min (Int.toNat (32 : Int)) (IntKind.bits IntKind.u64)))])))) < 2 ^ (64 : Nat)) else (0 : Int) ≤ 32 ∧ ((0 : Nat) + 2 ≤ List.length [IntKind.wrap IntKind.u32 (IntKind.wrap IntKind.u64 z), IntKind.wrap IntKind.u32 (Int.fdiv (IntKind.wrap IntKind.u64 z) ((2 : Int) ^ min (Int.toNat (32 : Int)) (IntKind.bits IntKind.u64)))] ∧ (∀ (x : Int), x ∈ List.take (2 : Nat) (List.drop (0 : Nat) [IntKind.wrap IntKind.u32 (IntKind.wrap IntKind.u64 z), IntKind.wrap IntKind.u32 (Int.fdiv (IntKind.wrap IntKind.u64 z) ((2 : Int) ^ min (Int.toNat (32 : Int)) (IntKind.bits IntKind.u64)))]) → (0 : Int) ≤ x ∧ x < 4294967296) ∧ List.length (List.take (2 : Nat) (List.drop (0 : Nat) [IntKind.wrap IntKind.u32 (IntKind.wrap IntKind.u64 z), IntKind.wrap IntKind.u32 (Int.fdiv (IntKind.wrap IntKind.u64 z) ((2 : Int) ^ min (Int.toNat (32 : Int)) (IntKind.bits IntKind.u64)))])) ≤ 1000000000) ∧ sg (decide (z < 0)) (wv (List.take (2 : Nat) (List.drop (0 : Nat) [IntKind.wrap IntKind.u32 (IntKind.wrap IntKind.u64 z), IntKind.wrap IntKind.u32 (Int.fdiv (IntKind.wrap IntKind.u64 z) ((2 : Int) ^ min (Int.toNat (32 : Int)) (IntKind.bits IntKind.u64)))]))) = z ∧ ((32 : Nat) * List.length (List.take (2 : Nat) (List.drop (0 : Nat) [IntKind.wrap IntKind.u32 (IntKind.wrap IntKind.u64 z), IntKind.wrap IntKind.u32 (Int.fdiv (IntKind.wrap IntKind.u64 z) ((2 : Int) ^ min (Int.toNat (32 : Int)) (IntKind.bits IntKind.u64)))])) ≤ 64 ∨ Int.natAbs (sg (decide (z < 0)) (wv (List.take (2 : Nat) (List.drop (0 : Nat) [IntKind.wrap IntKind.u32 (IntKind.wrap IntKind.u64 z), IntKind.wrap IntKind.u32 (Int.fdiv (IntKind.wrap IntKind.u64 z) ((2 : Int) ^ min (Int.toNat (32 : Int)) (IntKind.bits IntKind.u64)))])))) < 2 ^ (64 : Nat))) = evFn (env [c_rmade] noAnn) Tryz.f26 [.int .i64 z] (MRes.sat (.ret (.big z 64))) := by kernel_rfl
theorem p_rof : Good Tryz.f26 s_iof := by
 intro ms p r h hp
 unfold s_iof at h
 split at h
 ·rename_i z
  simp only [Option.some.injEq, Prod.mk.injEq] at h
  obtain ⟨rfl, rfl⟩ := h
  obtain ⟨h1, h2⟩ : -9223372036854775808 ≤ z ∧ z ≤ 9223372036854775807 := hp
  refine ⟨env [c_rmade] noAnn, ?_⟩
  rw [← vc_rof z, p32]
  have hV : z < 0 → IntKind.u64.wrap ((0 : Int) - IntKind.u64.wrap z) = z.natAbs := fun h => by simp only [u64w]; omega
  have hW : ¬ z < 0 → IntKind.u64.wrap z = z.natAbs := fun h => by rw [u64w]; omega
  have hl : (List.take 2 (List.drop 0 [(z.natAbs : Int) % 4294967296, (z.natAbs : Int) / 4294967296 % 4294967296])) = [(z.natAbs : Int) % 4294967296, (z.natAbs : Int) / 4294967296 % 4294967296] := rfl
  have hw : wv [(z.natAbs : Int) % 4294967296, (z.natAbs : Int) / 4294967296 % 4294967296] = z.natAbs := by simp only [wv]; omega
  rw [Bool.cond_decide]
  split
  all_goals
   rename_i hc
   first | rw [hV hc] | rw [hW hc]
   rw [Int.fdiv_eq_ediv_of_nonneg _ (by omega), u32w, u32w, hl, hw, sg_dec]
   refine ⟨by omega, ⟨by simp, fun x hx => ?_, by simp⟩, rfl, .inl (by simp)⟩
   simp only [List.mem_cons, List.not_mem_nil, or_false] at hx
   rcases hx with rfl | rfl <;> omega
 ·simp at h
def c_rof : Ctr Tryz.prog := ⟨26, s_iof, fun args w => Tryz.call26 args w, fn_ok mix Tryz.func26 s_iof p_rof⟩
theorem vc_rneg (z : Int) (n : Nat) : (((∀ (x : Int), x ∈ limbs (Int.natAbs z) → (0 : Int) ≤ x ∧ x < 4294967296) ∧ List.length (limbs (Int.natAbs z)) ≤ 1000000000) ∧ sg (!decide (z < 0)) (wv (limbs (Int.natAbs z))) = -z ∧ ((32 : Nat) * List.length (limbs (Int.natAbs z)) ≤ n ∨ Int.natAbs (sg (!decide (z < 0)) (wv (limbs (Int.natAbs z)))) < 2 ^ n)) = evFn (env [c_rmade] noAnn) Tryz.f59 [.big z n] (MRes.sat (.ret (.big (-z) n))) := by kernel_rfl
theorem p_rneg : GoodF Tryz.f59 s_neg := by
 intro ms p r h hp hf
 unfold s_neg at h
 split at h
 ·rename_i z n
  simp only [Option.some.injEq, Prod.mk.injEq] at h
  obtain ⟨rfl, rfl⟩ := h
  have hn : n ≤ 1000000 := hp
  have hz : z.natAbs < 2 ^ n := hf.1
  refine ⟨env [c_rmade] noAnn, ?_⟩
  rw [← vc_rneg z n, wvl, sg_ndec]
  have := lim_len hz (by omega)
  exact ⟨⟨limbs_wd _, by omega⟩, rfl, .inr (by rw [Int.natAbs_neg]; exact hz)⟩
 ·simp at h
def c_rneg : Ctr Tryz.prog := ⟨59, s_neg, fun args w => Tryz.call59 args w, fn_ok_facts mix Tryz.func59 s_neg p_rneg⟩
theorem vc_rabs (z : Int) (n : Nat) : (((∀ (x : Int), x ∈ limbs (Int.natAbs z) → (0 : Int) ≤ x ∧ x < 4294967296) ∧ List.length (limbs (Int.natAbs z)) ≤ 1000000000) ∧ sg false (wv (limbs (Int.natAbs z))) = (↑(Int.natAbs z) : Int) ∧ ((32 : Nat) * List.length (limbs (Int.natAbs z)) ≤ n ∨ Int.natAbs (sg false (wv (limbs (Int.natAbs z)))) < 2 ^ n)) = evFn (env [c_rmade] noAnn) Tryz.f55 [.big z n] (MRes.sat (.ret (.big z.natAbs n))) := by kernel_rfl
theorem p_rabs : GoodF Tryz.f55 s_abs := by
 intro ms p r h hp hf
 unfold s_abs at h
 split at h
 ·rename_i z n
  simp only [Option.some.injEq, Prod.mk.injEq] at h
  obtain ⟨rfl, rfl⟩ := h
  have hn : n ≤ 1000000 := hp
  have hz : z.natAbs < 2 ^ n := hf.1
  refine ⟨env [c_rmade] noAnn, ?_⟩
  rw [← vc_rabs z n, wvl]
  have := lim_len hz (by omega)
  exact ⟨⟨limbs_wd _, by omega⟩, rfl, .inr (by rw [natAbs_sg, Int.natAbs_natCast]; exact hz)⟩
 ·simp at h
def c_rabs : Ctr Tryz.prog := ⟨55, s_abs, fun args w => Tryz.call55 args w, fn_ok_facts mix Tryz.func55 s_abs p_rabs⟩
end Go.Proofs.YtnfmjlhkknndhaaGreat
