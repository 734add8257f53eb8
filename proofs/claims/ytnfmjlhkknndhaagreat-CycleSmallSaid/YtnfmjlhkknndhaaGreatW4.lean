/-
  The evaluator, part 10: rows of operations, regions, code are right.
-/
import Derived.Test.YtnfmjlhkknndhaaGreatW3
import Derived.Test.YtnfmjlhkknndhaaGreatW2
import Derived.RangeFuncNested
import Derived.RangeFuncLeaves
import Derived.Sort.LoopGhostIn
import Derived.OrdersIn
import Derived.Maps.Keyed
import Derived.WideKeyArr

/-
 Contracts of functions: the reference of layer 1: sums, differences, products.
-/
namespace Go.Proofs.YtnfmjlhkknndhaaGreat
open Go Go.RowKit
def digs : Nat → Int → List Int
 | 0, _ => []
 | k + 1, n => n % 4294967296 :: digs k (n / 4294967296)
theorem digs_len : ∀ (k : Nat) (n : Int), (digs k n).length = k
 | 0, _ => rfl
 | k + 1, n => by simp [digs, digs_len k]
theorem digs_wd : ∀ (k : Nat) (n : Int), Wd (digs k n)
 | 0, _ => Wd.nil
 | k + 1, n => Wd.cons ⟨Int.emod_nonneg _ (by omega), Int.emod_lt_of_pos _ (by omega)⟩ (digs_wd k _)
theorem wv_digs : ∀ (k : Nat) (n : Int), 0 ≤ n → n < 4294967296 ^ k → wv (digs k n) = n
 | 0, n, h0, h1 => by simp [digs, wv] at *; omega
 | k + 1, n, h0, h1 => by
  rw [Int.pow_succ] at h1
  simp only [digs, wv]
  rw [wv_digs k _ (by omega) (Int.ediv_lt_of_lt_mul (by omega) h1)]
  omega
theorem digs_wv : ∀ {l : List Int}, Wd l → digs l.length (wv l) = l
 | [], _ => rfl
 | x :: r, h => by
  have h1 := h.head
  have h2 := digs_wv h.tail
  simp only [List.length_cons, digs, wv]
  rw [show (x + 4294967296 * wv r) % 4294967296 = x by omega, show (x + 4294967296 * wv r) / 4294967296 = wv r by omega, h2]
/-! ### plus -/
def s_rplus : FSpec
 | [.ws a, .ws b] => some (some (Wd a ∧ Wd b ∧ a.length ≤ 1000000000 ∧ b.length ≤ 1000000000), .ret (.ws (digs (max a.length b.length + 1) (wv a + wv b))))
 | _ => none
structure RpS where
 i : Nat
 out : List Int
 c : Int
structure RpI (a b : List Int) (s : RpS) : Prop where
 hi : s.i ≤ max a.length b.length
 len : s.out.length = s.i
 wd : Wd s.out
 c0 : 0 ≤ s.c ∧ s.c ≤ 1
 sum : wv s.out + 4294967296 ^ s.i * s.c = wv (a.take s.i) + wv (b.take s.i)
def a_rplus (a b : List Int) : Nat → MS → Option LoopAnn
 | 4, _ => some (.inv RpS (RpI a b) (fun s => ⟨39, [(0, .ws a), (1, .ws b), (5, .bs 0 0 s.i), (6, .int .u64 s.c), (7, .int .i64 s.i)], [⟨false, .arr .u32 s.out⟩], 0⟩) (fun s => max a.length b.length - s.i))
 | _, _ => none
theorem vc_rplus (a b : List Int) : ((∃ i, RpI a b i ∧ (a = a ∧ b = b ∧ ((0 : Nat) = 0 ∧ (0 : Nat) = RpS.i i) ∧ (0 : Int) = RpS.c i ∧ (0 : Int) = (↑(RpS.i i) : Int) ∧ True) ∧ [] = RpS.out i ∧ True) ∧ ∀ (i : RpS), RpI a b i → bif decide ((↑(RpS.i i) : Int) < maxI (↑(List.length a) : Int) (↑(List.length b) : Int)) then (∀ (x : Int), x ∈ a → (0 : Int) ≤ x ∧ x < 4294967296) ∧ (∀ (x : Int), x ∈ b → (0 : Int) ≤ x ∧ x < 4294967296) ∧ ((0 : Nat) + 1 ≤ List.length [IntKind.wrap IntKind.u32 (IntKind.wrap IntKind.u64 (RpS.c i + IntKind.wrap IntKind.u64 (wdg a (↑(RpS.i i) : Int) + wdg b (↑(RpS.i i) : Int))))] ∧ RpS.i i ≤ List.length (RpS.out i) ∧ (RpS.i i + News.len (News.ints IntKind.u32 (List.take (1 : Nat) (List.drop (0 : Nat) [IntKind.wrap IntKind.u32 (IntKind.wrap IntKind.u64 (RpS.c i + IntKind.wrap IntKind.u64 (wdg a (↑(RpS.i i) : Int) + wdg b (↑(RpS.i i) : Int))))])))) * 4 ≤ 140737488355328) ∧ (0 : Int) ≤ 32 ∧ ∃ j, RpI a b j ∧ ((a = a ∧ b = b ∧ ((0 : Nat) = 0 ∧ RpS.i i + News.len (News.ints IntKind.u32 (List.take (1 : Nat) (List.drop (0 : Nat) [IntKind.wrap IntKind.u32 (IntKind.wrap IntKind.u64 (RpS.c i + IntKind.wrap IntKind.u64 (wdg a (↑(RpS.i i) : Int) + wdg b (↑(RpS.i i) : Int))))]))) = RpS.i j) ∧ Int.fdiv (IntKind.wrap IntKind.u64 (RpS.c i + IntKind.wrap IntKind.u64 (wdg a (↑(RpS.i i) : Int) + wdg b (↑(RpS.i i) : Int)))) ((2 : Int) ^ min (Int.toNat (32 : Int)) (IntKind.bits IntKind.u64)) = RpS.c j ∧ IntKind.wrap IntKind.i64 ((↑(RpS.i i) : Int) + 1) = (↑(RpS.i j) : Int) ∧ True) ∧ List.take (RpS.i i) (RpS.out i) ++ List.take (1 : Nat) (List.drop (0 : Nat) [IntKind.wrap IntKind.u32 (IntKind.wrap IntKind.u64 (RpS.c i + IntKind.wrap IntKind.u64 (wdg a (↑(RpS.i i) : Int) + wdg b (↑(RpS.i i) : Int))))]) = RpS.out j ∧ True) ∧ max (List.length a) (List.length b) - RpS.i j < max (List.length a) (List.length b) - RpS.i i else ((0 : Nat) + 1 ≤ List.length [IntKind.wrap IntKind.u32 (RpS.c i)] ∧ RpS.i i ≤ List.length (RpS.out i) ∧ (RpS.i i + News.len (News.ints IntKind.u32 (List.take (1 : Nat) (List.drop (0 : Nat) [IntKind.wrap IntKind.u32 (RpS.c i)])))) * 4 ≤ 140737488355328) ∧ (0 : Nat) + (RpS.i i + News.len (News.ints IntKind.u32 (List.take (1 : Nat) (List.drop (0 : Nat) [IntKind.wrap IntKind.u32 (RpS.c i)])))) ≤ List.length (List.take (RpS.i i) (RpS.out i) ++ List.take (1 : Nat) (List.drop (0 : Nat) [IntKind.wrap IntKind.u32 (RpS.c i)])) ∧ List.take (RpS.i i + News.len (News.ints IntKind.u32 (List.take (1 : Nat) (List.drop (0 : Nat) [IntKind.wrap IntKind.u32 (RpS.c i)])))) (List.drop (0 : Nat) (List.take (RpS.i i) (RpS.out i) ++ List.take (1 : Nat) (List.drop (0 : Nat) [IntKind.wrap IntKind.u32 (RpS.c i)]))) = digs (max (List.length a) (List.length b) + 1) (wv a + wv b)) = evFn (env [c_rword] (a_rplus a b)) Tryz.f98 [.ws a, .ws b] (MRes.sat (.ret (.ws (digs (max a.length b.length + 1) (wv a + wv b))))) := by kernel_rfl
/-! ### minus -/
def s_rminus : FSpec
 | [.ws a, .ws b] => some (some (Wd a ∧ Wd b ∧ a.length ≤ 1000000000 ∧ b.length ≤ a.length ∧ wv b ≤ wv a), .ret (.ws (digs a.length (wv a - wv b))))
 | _ => none
structure RmI (a b : List Int) (s : RpS) : Prop where
 hi : s.i ≤ a.length
 len : s.out.length = s.i
 wd : Wd s.out
 c0 : 0 ≤ s.c ∧ s.c ≤ 1
 sum : wv s.out - 4294967296 ^ s.i * s.c = wv (a.take s.i) - wv (b.take s.i)
def a_rminus (a b : List Int) : Nat → MS → Option LoopAnn
 | 4, _ => some (.inv RpS (RmI a b) (fun s => ⟨35, [(0, .ws a), (1, .ws b), (5, .bs 0 0 s.i), (6, .int .u64 s.c), (7, .int .i64 s.i)], [⟨false, .arr .u32 s.out⟩], 0⟩) (fun s => a.length - s.i))
 | _, _ => none
theorem vc_rminus (a b : List Int) : ((∃ i, RmI a b i ∧ (a = a ∧ b = b ∧ ((0 : Nat) = 0 ∧ (0 : Nat) = RpS.i i) ∧ (0 : Int) = RpS.c i ∧ (0 : Int) = (↑(RpS.i i) : Int) ∧ True) ∧ [] = RpS.out i ∧ True) ∧ ∀ (i : RpS), RmI a b i → bif decide ((↑(RpS.i i) : Int) < (↑(List.length a) : Int)) then (∀ (x : Int), x ∈ a → (0 : Int) ≤ x ∧ x < 4294967296) ∧ (∀ (x : Int), x ∈ b → (0 : Int) ≤ x ∧ x < 4294967296) ∧ ((0 : Nat) + 1 ≤ List.length [IntKind.wrap IntKind.u32 (IntKind.wrap IntKind.u64 (IntKind.wrap IntKind.u64 (IntKind.wrap IntKind.u64 ((4294967296 : Int) + wdg a (↑(RpS.i i) : Int)) - wdg b (↑(RpS.i i) : Int)) - RpS.c i))] ∧ RpS.i i ≤ List.length (RpS.out i) ∧ (RpS.i i + News.len (News.ints IntKind.u32 (List.take (1 : Nat) (List.drop (0 : Nat) [IntKind.wrap IntKind.u32 (IntKind.wrap IntKind.u64 (IntKind.wrap IntKind.u64 (IntKind.wrap IntKind.u64 ((4294967296 : Int) + wdg a (↑(RpS.i i) : Int)) - wdg b (↑(RpS.i i) : Int)) - RpS.c i))])))) * 4 ≤ 140737488355328) ∧ (0 : Int) ≤ 32 ∧ ∃ j, RmI a b j ∧ ((a = a ∧ b = b ∧ ((0 : Nat) = 0 ∧ RpS.i i + News.len (News.ints IntKind.u32 (List.take (1 : Nat) (List.drop (0 : Nat) [IntKind.wrap IntKind.u32 (IntKind.wrap IntKind.u64 (IntKind.wrap IntKind.u64 (IntKind.wrap IntKind.u64 ((4294967296 : Int) + wdg a (↑(RpS.i i) : Int)) - wdg b (↑(RpS.i i) : Int)) - RpS.c i))]))) = RpS.i j) ∧ IntKind.wrap IntKind.u64 ((1 : Int) - Int.fdiv (IntKind.wrap IntKind.u64 (IntKind.wrap IntKind.u64 (IntKind.wrap IntKind.u64 ((4294967296 : Int) + wdg a (↑(RpS.i i) : Int)) - wdg b (↑(RpS.i i) : Int)) - RpS.c i)) ((2 : Int) ^ min (Int.toNat (32 : Int)) (IntKind.bits IntKind.u64))) = RpS.c j ∧ IntKind.wrap IntKind.i64 ((↑(RpS.i i) : Int) + 1) = (↑(RpS.i j) : Int) ∧ True) ∧ List.take (RpS.i i) (RpS.out i) ++ List.take (1 : Nat) (List.drop (0 : Nat) [IntKind.wrap IntKind.u32 (IntKind.wrap IntKind.u64 (IntKind.wrap IntKind.u64 (IntKind.wrap IntKind.u64 ((4294967296 : Int) + wdg a (↑(RpS.i i) : Int)) - wdg b (↑(RpS.i i) : Int)) - RpS.c i))]) = RpS.out j ∧ True) ∧ List.length a - RpS.i j < List.length a - RpS.i i else (0 : Nat) + RpS.i i ≤ List.length (RpS.out i) ∧ List.take (RpS.i i) (List.drop (0 : Nat) (RpS.out i)) = digs (List.length a) (wv a - wv b)) = evFn (env [c_rword] (a_rminus a b)) Tryz.f99 [.ws a, .ws b] (MRes.sat (.ret (.ws (digs a.length (wv a - wv b))))) := by kernel_rfl
theorem ones (x : Int) : List.take 1 (List.drop 0 [x]) = [x] := rfl
theorem ones' (x : Int) : List.take 1 [x] = [x] := rfl
theorem news1 (x : Int) : News.len (News.ints .u32 [x]) = 1 := rfl
theorem wv_one (x : Int) : wv [x] = x := by simp [wv]
theorem Wd.one {x : Int} (h : 0 ≤ x ∧ x < 4294967296) : Wd [x] := Wd.cons h Wd.nil
theorem RpI.step {a b : List Int} {s : RpS} (h : RpI a b s) (ha : Wd a) (hb : Wd b) (hi : s.i < max a.length b.length) {t : Int} (ht : t = s.c + (a.getD s.i 0 + b.getD s.i 0)) :
  RpI a b ⟨s.i + 1, s.out ++ [t % 4294967296], t / 4294967296⟩ := by
 have h1 := ha.getD s.i
 have h2 := hb.getD s.i
 have h3 := h.c0
 refine ⟨by show s.i + 1 ≤ _; omega, by simp [h.len], h.wd.append (Wd.one (by omega)), by show 0 ≤ t / 4294967296 ∧ t / 4294967296 ≤ 1; omega, ?_⟩
 show wv (s.out ++ [t % 4294967296]) + 4294967296 ^ (s.i + 1) * (t / 4294967296) = wv (a.take (s.i + 1)) + wv (b.take (s.i + 1))
 rw [wv_append, wv_one, wv_take_succ, wv_take_succ, h.len, Int.pow_succ]
 have h4 := h.sum
 have h5 := carry_step (4294967296 ^ s.i) t
 have h6 : (4294967296 : Int) ^ s.i * t = 4294967296 ^ s.i * s.c + (4294967296 ^ s.i * a.getD s.i 0 + 4294967296 ^ s.i * b.getD s.i 0) := by rw [ht, Int.mul_add, Int.mul_add]
 omega
theorem p_rplus : Good Tryz.f98 s_rplus := by
 intro ms p r h hp
 unfold s_rplus at h
 split at h
 ·rename_i a b
  simp only [Option.some.injEq, Prod.mk.injEq] at h
  obtain ⟨rfl, rfl⟩ := h
  obtain ⟨ha, hb, la, lb⟩ : Wd a ∧ Wd b ∧ a.length ≤ 1000000000 ∧ b.length ≤ 1000000000 := hp
  refine ⟨env [c_rword] (a_rplus a b), ?_⟩
  rw [← vc_rplus a b]
  refine ⟨⟨⟨0, [], 0⟩, ⟨Nat.zero_le _, rfl, Wd.nil, ⟨Int.le_refl _, by show (0 : Int) ≤ 1; omega⟩, by simp [wv]⟩, (by and_intros <;> first | exact True.intro | rfl | omega)⟩, ?_⟩
  rintro ⟨i, out, c⟩ hI
  have hc : 0 ≤ c ∧ c ≤ 1 := hI.c0
  have hl : out.length = i := hI.len
  have hi : i ≤ max a.length b.length := hI.hi
  have hm : maxI (a.length : Int) (b.length : Int) = ((max a.length b.length : Nat) : Int) := by unfold maxI; split <;> omega
  have h1 := ha.getD i
  have h2 := hb.getD i
  have e1 : IntKind.u64.wrap (a.getD i 0 + b.getD i 0) = a.getD i 0 + b.getD i 0 := eu64 (by omega)
  have e2 : IntKind.u64.wrap (c + (a.getD i 0 + b.getD i 0)) = c + (a.getD i 0 + b.getD i 0) := eu64 (by omega)
  have e3 : IntKind.i64.wrap ((i : Int) + 1) = ((i + 1 : Nat) : Int) := by rw [i64w (by omega) (by omega)]; omega
  have e4 : IntKind.u32.wrap c = c := eu32 (by omega)
  have e5 : Int.fdiv (c + (a.getD i 0 + b.getD i 0)) 4294967296 = (c + (a.getD i 0 + b.getD i 0)) / 4294967296 := Int.fdiv_eq_ediv_of_nonneg _ (by omega)
  have e6 : List.take i out = out := List.take_of_length_le (by omega)
  simp only [wdg_nat, hm, e1, e2, e3, e4, ones, news1, p32, e5, e6, u32w (c + (a.getD i 0 + b.getD i 0)), Bool.cond_decide]
  split
  ·rename_i hlt
   have hlt : i < max a.length b.length := by omega
   exact ⟨ha, hb, ⟨by simp, by omega, by omega⟩, by omega, _, hI.step ha hb hlt rfl, (by and_intros <;> first | exact True.intro | rfl | omega), by show max a.length b.length - (i + 1) < max a.length b.length - i; omega⟩
  ·rename_i hge
   have hE : i = max a.length b.length := by omega
   have hsum : wv out + 4294967296 ^ i * c = wv (a.take i) + wv (b.take i) := hI.sum
   rw [wv_take_all (by omega), wv_take_all (by omega)] at hsum
   have e7 : List.take (i + 1) (List.drop 0 (out ++ [c])) = out ++ [c] := by rw [List.drop_zero]; exact List.take_of_length_le (by simp; omega)
   rw [e7]
   refine ⟨⟨by simp, by omega, by omega⟩, by simp; omega, ?_⟩
   have := digs_wv (l := out ++ [c]) (hI.wd.append (Wd.one (by omega)))
   rw [wv_append, wv_one, hl, hsum] at this
   rw [← this, ← hE]
   simp [hl]
 ·simp at h
def c_rplus : Ctr Tryz.prog := ⟨98, s_rplus, fun args w => Tryz.call98 args w, fn_ok mix Tryz.func98 s_rplus p_rplus⟩
theorem RmI.step {a b : List Int} {s : RpS} (h : RmI a b s) (ha : Wd a) (hb : Wd b) (hi : s.i < a.length) {t : Int} (ht : t = 4294967296 + a.getD s.i 0 - b.getD s.i 0 - s.c) :
  RmI a b ⟨s.i + 1, s.out ++ [t % 4294967296], 1 - t / 4294967296⟩ := by
 have h1 := ha.getD s.i
 have h2 := hb.getD s.i
 have h3 := h.c0
 refine ⟨by show s.i + 1 ≤ _; omega, by simp [h.len], h.wd.append (Wd.one (by omega)), by show 0 ≤ 1 - t / 4294967296 ∧ 1 - t / 4294967296 ≤ 1; omega, ?_⟩
 show wv (s.out ++ [t % 4294967296]) - 4294967296 ^ (s.i + 1) * (1 - t / 4294967296) = wv (a.take (s.i + 1)) - wv (b.take (s.i + 1))
 rw [wv_append, wv_one, wv_take_succ, wv_take_succ, h.len, Int.pow_succ]
 have h4 := h.sum
 have h5 := carry_step (4294967296 ^ s.i) t
 have h6 : (4294967296 : Int) ^ s.i * t = 4294967296 ^ s.i * 4294967296 + 4294967296 ^ s.i * a.getD s.i 0 - 4294967296 ^ s.i * b.getD s.i 0 - 4294967296 ^ s.i * s.c := by rw [ht, Int.mul_sub, Int.mul_sub, Int.mul_add]
 rw [Int.mul_sub, Int.mul_one]
 omega
theorem p_rminus : Good Tryz.f99 s_rminus := by
 intro ms p r h hp
 unfold s_rminus at h
 split at h
 ·rename_i a b
  simp only [Option.some.injEq, Prod.mk.injEq] at h
  obtain ⟨rfl, rfl⟩ := h
  obtain ⟨ha, hb, la, lb, hle⟩ : Wd a ∧ Wd b ∧ a.length ≤ 1000000000 ∧ b.length ≤ a.length ∧ wv b ≤ wv a := hp
  refine ⟨env [c_rword] (a_rminus a b), ?_⟩
  rw [← vc_rminus a b]
  refine ⟨⟨⟨0, [], 0⟩, ⟨Nat.zero_le _, rfl, Wd.nil, ⟨Int.le_refl _, by show (0 : Int) ≤ 1; omega⟩, by simp [wv]⟩, (by and_intros <;> first | exact True.intro | rfl | omega)⟩, ?_⟩
  rintro ⟨i, out, c⟩ hI
  have hc : 0 ≤ c ∧ c ≤ 1 := hI.c0
  have hl : out.length = i := hI.len
  have hi : i ≤ a.length := hI.hi
  have h1 := ha.getD i
  have h2 := hb.getD i
  have e0 : IntKind.u64.wrap (4294967296 + a.getD i 0) = 4294967296 + a.getD i 0 := eu64 (by omega)
  have e1 : IntKind.u64.wrap (4294967296 + a.getD i 0 - b.getD i 0) = 4294967296 + a.getD i 0 - b.getD i 0 := eu64 (by omega)
  have e2 : IntKind.u64.wrap (4294967296 + a.getD i 0 - b.getD i 0 - c) = 4294967296 + a.getD i 0 - b.getD i 0 - c := eu64 (by omega)
  have e3 : IntKind.i64.wrap ((i : Int) + 1) = ((i + 1 : Nat) : Int) := by rw [i64w (by omega) (by omega)]; omega
  have e5 : Int.fdiv (4294967296 + a.getD i 0 - b.getD i 0 - c) 4294967296 = (4294967296 + a.getD i 0 - b.getD i 0 - c) / 4294967296 := Int.fdiv_eq_ediv_of_nonneg _ (by omega)
  have e6 : List.take i out = out := List.take_of_length_le (by omega)
  have e8 : IntKind.u64.wrap (1 - (4294967296 + a.getD i 0 - b.getD i 0 - c) / 4294967296) = 1 - (4294967296 + a.getD i 0 - b.getD i 0 - c) / 4294967296 := eu64 (by omega)
  simp only [wdg_nat, e0, e1, e2, e3, ones', news1, p32, e5, e6, e8, u32w (4294967296 + a.getD i 0 - b.getD i 0 - c), Bool.cond_decide, List.drop_zero]
  split
  ·rename_i hlt
   have hlt : i < a.length := by omega
   exact ⟨ha, hb, ⟨by simp, by omega, by omega⟩, by omega, _, hI.step ha hb hlt rfl, (by and_intros <;> first | exact True.intro | rfl | omega), by show a.length - (i + 1) < a.length - i; omega⟩
  ·rename_i hge
   have hE : i = a.length := by omega
   have hsum : wv out - 4294967296 ^ i * c = wv (a.take i) - wv (b.take i) := hI.sum
   rw [wv_take_all (by omega), wv_take_all (by omega)] at hsum
   have hw : wv out < 4294967296 ^ i := by have := wv_lt hI.wd; rwa [hl] at this
   have hp := pow_pos32 i
   have hc0 : c = 0 := by
    rcases (show c = 0 ∨ c = 1 by omega) with q | q
    ·exact q
    ·rw [q, Int.mul_one] at hsum; omega
   rw [hc0, Int.mul_zero, Int.sub_zero] at hsum
   have := digs_wv (l := out) hI.wd
   rw [hsum, hl, hE] at this
   exact ⟨by omega, this.symm⟩
 ·simp at h
def c_rminus : Ctr Tryz.prog := ⟨99, s_rminus, fun args w => Tryz.call99 args w, fn_ok mix Tryz.func99 s_rminus p_rminus⟩
/-! ### Add, Sub, Mul, Bits -/
theorem vc_radd (a b : Int) (n m : Nat) : (bif decide (a < 0) == decide (b < 0) then ((∀ (x : Int), x ∈ limbs (Int.natAbs a) → (0 : Int) ≤ x ∧ x < 4294967296) ∧ (∀ (x : Int), x ∈ limbs (Int.natAbs b) → (0 : Int) ≤ x ∧ x < 4294967296) ∧ List.length (limbs (Int.natAbs a)) ≤ 1000000000 ∧ List.length (limbs (Int.natAbs b)) ≤ 1000000000) ∧ ((∀ (x : Int), x ∈ digs (max (List.length (limbs (Int.natAbs a))) (List.length (limbs (Int.natAbs b))) + 1) (wv (limbs (Int.natAbs a)) + wv (limbs (Int.natAbs b))) → (0 : Int) ≤ x ∧ x < 4294967296) ∧ List.length (digs (max (List.length (limbs (Int.natAbs a))) (List.length (limbs (Int.natAbs b))) + 1) (wv (limbs (Int.natAbs a)) + wv (limbs (Int.natAbs b)))) ≤ 1000000000) ∧ sg (decide (a < 0)) (wv (digs (max (List.length (limbs (Int.natAbs a))) (List.length (limbs (Int.natAbs b))) + 1) (wv (limbs (Int.natAbs a)) + wv (limbs (Int.natAbs b))))) = a + b ∧ ((32 : Nat) * List.length (digs (max (List.length (limbs (Int.natAbs a))) (List.length (limbs (Int.natAbs b))) + 1) (wv (limbs (Int.natAbs a)) + wv (limbs (Int.natAbs b)))) ≤ max n m + 1 ∨ Int.natAbs (sg (decide (a < 0)) (wv (digs (max (List.length (limbs (Int.natAbs a))) (List.length (limbs (Int.natAbs b))) + 1) (wv (limbs (Int.natAbs a)) + wv (limbs (Int.natAbs b)))))) < 2 ^ (max n m + 1)) else (limbs (Int.toNat (wv (limbs (Int.natAbs a)))) = limbs (Int.natAbs a) ∧ limbs (Int.toNat (wv (limbs (Int.natAbs b)))) = limbs (Int.natAbs b) ∧ List.length (limbs (Int.natAbs a)) ≤ 1099511627776 ∧ List.length (limbs (Int.natAbs b)) ≤ 1099511627776) ∧ bif decide (icmp (wv (limbs (Int.natAbs a))) (wv (limbs (Int.natAbs b))) ≥ 0) then ((∀ (x : Int), x ∈ limbs (Int.natAbs a) → (0 : Int) ≤ x ∧ x < 4294967296) ∧ (∀ (x : Int), x ∈ limbs (Int.natAbs b) → (0 : Int) ≤ x ∧ x < 4294967296) ∧ List.length (limbs (Int.natAbs a)) ≤ 1000000000 ∧ List.length (limbs (Int.natAbs b)) ≤ List.length (limbs (Int.natAbs a)) ∧ wv (limbs (Int.natAbs b)) ≤ wv (limbs (Int.natAbs a))) ∧ ((∀ (x : Int), x ∈ digs (List.length (limbs (Int.natAbs a))) (wv (limbs (Int.natAbs a)) - wv (limbs (Int.natAbs b))) → (0 : Int) ≤ x ∧ x < 4294967296) ∧ List.length (digs (List.length (limbs (Int.natAbs a))) (wv (limbs (Int.natAbs a)) - wv (limbs (Int.natAbs b)))) ≤ 1000000000) ∧ sg (decide (a < 0)) (wv (digs (List.length (limbs (Int.natAbs a))) (wv (limbs (Int.natAbs a)) - wv (limbs (Int.natAbs b))))) = a + b ∧ ((32 : Nat) * List.length (digs (List.length (limbs (Int.natAbs a))) (wv (limbs (Int.natAbs a)) - wv (limbs (Int.natAbs b)))) ≤ max n m + 1 ∨ Int.natAbs (sg (decide (a < 0)) (wv (digs (List.length (limbs (Int.natAbs a))) (wv (limbs (Int.natAbs a)) - wv (limbs (Int.natAbs b)))))) < 2 ^ (max n m + 1)) else ((∀ (x : Int), x ∈ limbs (Int.natAbs b) → (0 : Int) ≤ x ∧ x < 4294967296) ∧ (∀ (x : Int), x ∈ limbs (Int.natAbs a) → (0 : Int) ≤ x ∧ x < 4294967296) ∧ List.length (limbs (Int.natAbs b)) ≤ 1000000000 ∧ List.length (limbs (Int.natAbs a)) ≤ List.length (limbs (Int.natAbs b)) ∧ wv (limbs (Int.natAbs a)) ≤ wv (limbs (Int.natAbs b))) ∧ ((∀ (x : Int), x ∈ digs (List.length (limbs (Int.natAbs b))) (wv (limbs (Int.natAbs b)) - wv (limbs (Int.natAbs a))) → (0 : Int) ≤ x ∧ x < 4294967296) ∧ List.length (digs (List.length (limbs (Int.natAbs b))) (wv (limbs (Int.natAbs b)) - wv (limbs (Int.natAbs a)))) ≤ 1000000000) ∧ sg (decide (b < 0)) (wv (digs (List.length (limbs (Int.natAbs b))) (wv (limbs (Int.natAbs b)) - wv (limbs (Int.natAbs a))))) = a + b ∧ ((32 : Nat) * List.length (digs (List.length (limbs (Int.natAbs b))) (wv (limbs (Int.natAbs b)) - wv (limbs (Int.natAbs a)))) ≤ max n m + 1 ∨ Int.natAbs (sg (decide (b < 0)) (wv (digs (List.length (limbs (Int.natAbs b))) (wv (limbs (Int.natAbs b)) - wv (limbs (Int.natAbs a)))))) < 2 ^ (max n m + 1))) = evFn (env [c_rmade, c_rplus, c_rminus, c_rsize] noAnn) Tryz.f58 [.big a n, .big b m] (MRes.sat (.ret (.big (a + b) (max n m + 1)))) := by kernel_rfl
def a_rmul (a b : Int) (n m : Nat) : Nat → MS → Option LoopAnn
 | 3, _ => some (.inv MulS (MulO (limbs a.natAbs) (limbs b.natAbs)) (fun s => ⟨79, [(2, .bp 0 0), (3, .bp 1 0), (4, .bp 2 0), (5, .bs 3 0 ((limbs a.natAbs).length + (limbs b.natAbs).length)), (6, .int .i64 s.i)], [⟨false, .one (.big a n)⟩, ⟨false, .one (.big b m)⟩, ⟨false, .one (.big 0 0)⟩, ⟨false, .arr .u32 s.out⟩], 0⟩) (fun s => (limbs a.natAbs).length - s.i))
 | 7, s0 => some (.inv MulS (fun s => MulN (limbs a.natAbs) (limbs b.natAbs) s ∧ .int .i64 (s.i : Int) = look 6 s0.tm) (fun s => ⟨79, [(2, .bp 0 0), (3, .bp 1 0), (4, .bp 2 0), (5, .bs 3 0 ((limbs a.natAbs).length + (limbs b.natAbs).length)), (6, .int .i64 s.i), (7, .int .u64 s.c), (8, .int .i64 s.k)], [⟨false, .one (.big a n)⟩, ⟨false, .one (.big b m)⟩, ⟨false, .one (.big 0 0)⟩, ⟨false, .arr .u32 s.out⟩], 0⟩) (fun s => (limbs b.natAbs).length - s.k))
 | _, _ => none
theorem vc_rmul (a b : Int) (n m : Nat) : (((0 : Int) ≤ IntKind.wrap IntKind.i64 ((↑(List.length (limbs (Int.natAbs a))) : Int) + (↑(List.length (limbs (Int.natAbs b))) : Int)) ∧ IntKind.wrap IntKind.i64 ((↑(List.length (limbs (Int.natAbs a))) : Int) + (↑(List.length (limbs (Int.natAbs b))) : Int)) = IntKind.wrap IntKind.i64 ((↑(List.length (limbs (Int.natAbs a))) : Int) + (↑(List.length (limbs (Int.natAbs b))) : Int)) ∧ (↑(4 : Nat) : Int) * IntKind.wrap IntKind.i64 ((↑(List.length (limbs (Int.natAbs a))) : Int) + (↑(List.length (limbs (Int.natAbs b))) : Int)) ≤ 140737488355328) ∧ (∃ i, MulO (limbs (Int.natAbs a)) (limbs (Int.natAbs b)) i ∧ ((0 : Nat) = 0 ∧ (0 : Nat) = 0 ∧ (0 : Nat) = 0 ∧ ((0 : Nat) = 0 ∧ Int.toNat (IntKind.wrap IntKind.i64 ((↑(List.length (limbs (Int.natAbs a))) : Int) + (↑(List.length (limbs (Int.natAbs b))) : Int))) = List.length (limbs (Int.natAbs a)) + List.length (limbs (Int.natAbs b))) ∧ (0 : Int) = (↑(MulS.i i) : Int) ∧ True) ∧ LeB a a n n ∧ LeB b b m m ∧ LeB 0 0 0 0 ∧ List.replicate (Int.toNat (IntKind.wrap IntKind.i64 ((↑(List.length (limbs (Int.natAbs a))) : Int) + (↑(List.length (limbs (Int.natAbs b))) : Int)))) (0 : Int) = MulS.out i ∧ True) ∧ ∀ (i : MulS), MulO (limbs (Int.natAbs a)) (limbs (Int.natAbs b)) i → bif decide ((↑(MulS.i i) : Int) < (↑(List.length (limbs (Int.natAbs a))) : Int)) then (∃ i_1, (MulN (limbs (Int.natAbs a)) (limbs (Int.natAbs b)) i_1 ∧ MV.int IntKind.i64 (↑(MulS.i i_1) : Int) = MV.int IntKind.i64 (↑(MulS.i i) : Int)) ∧ ((0 : Nat) = 0 ∧ (0 : Nat) = 0 ∧ (0 : Nat) = 0 ∧ ((0 : Nat) = 0 ∧ List.length (limbs (Int.natAbs a)) + List.length (limbs (Int.natAbs b)) = List.length (limbs (Int.natAbs a)) + List.length (limbs (Int.natAbs b))) ∧ (↑(MulS.i i) : Int) = (↑(MulS.i i_1) : Int) ∧ (0 : Int) = MulS.c i_1 ∧ (0 : Int) = (↑(MulS.k i_1) : Int) ∧ True) ∧ LeB a a n n ∧ LeB b b m m ∧ LeB 0 0 0 0 ∧ MulS.out i = MulS.out i_1 ∧ True) ∧ ∀ (i_1 : MulS), MulN (limbs (Int.natAbs a)) (limbs (Int.natAbs b)) i_1 ∧ MV.int IntKind.i64 (↑(MulS.i i_1) : Int) = MV.int IntKind.i64 (↑(MulS.i i) : Int) → bif decide ((↑(MulS.k i_1) : Int) < (↑(List.length (limbs (Int.natAbs b))) : Int)) then ((0 : Int) ≤ (↑(MulS.i i_1) : Int) ∧ (↑(MulS.i i_1) : Int) < (↑(List.length (limbs (Int.natAbs a))) : Int)) ∧ ((0 : Int) ≤ (↑(MulS.k i_1) : Int) ∧ (↑(MulS.k i_1) : Int) < (↑(List.length (limbs (Int.natAbs b))) : Int)) ∧ ((0 : Int) ≤ IntKind.wrap IntKind.i64 ((↑(MulS.i i_1) : Int) + (↑(MulS.k i_1) : Int)) ∧ IntKind.wrap IntKind.i64 ((↑(MulS.i i_1) : Int) + (↑(MulS.k i_1) : Int)) < (↑(List.length (limbs (Int.natAbs a)) + List.length (limbs (Int.natAbs b))) : Int)) ∧ (0 : Nat) + Int.toNat (IntKind.wrap IntKind.i64 ((↑(MulS.i i_1) : Int) + (↑(MulS.k i_1) : Int))) < List.length (MulS.out i_1) ∧ ((0 : Int) ≤ IntKind.wrap IntKind.i64 ((↑(MulS.i i_1) : Int) + (↑(MulS.k i_1) : Int)) ∧ IntKind.wrap IntKind.i64 ((↑(MulS.i i_1) : Int) + (↑(MulS.k i_1) : Int)) < (↑(List.length (limbs (Int.natAbs a)) + List.length (limbs (Int.natAbs b))) : Int)) ∧ (0 : Nat) + Int.toNat (IntKind.wrap IntKind.i64 ((↑(MulS.i i_1) : Int) + (↑(MulS.k i_1) : Int))) < List.length (MulS.out i_1) ∧ (0 : Int) ≤ 32 ∧ ∃ j, (MulN (limbs (Int.natAbs a)) (limbs (Int.natAbs b)) j ∧ MV.int IntKind.i64 (↑(MulS.i j) : Int) = MV.int IntKind.i64 (↑(MulS.i i) : Int)) ∧ (((0 : Nat) = 0 ∧ (0 : Nat) = 0 ∧ (0 : Nat) = 0 ∧ ((0 : Nat) = 0 ∧ List.length (limbs (Int.natAbs a)) + List.length (limbs (Int.natAbs b)) = List.length (limbs (Int.natAbs a)) + List.length (limbs (Int.natAbs b))) ∧ (↑(MulS.i i_1) : Int) = (↑(MulS.i j) : Int) ∧ Int.fdiv (IntKind.wrap IntKind.u64 (MulS.c i_1 + IntKind.wrap IntKind.u64 (IntKind.wrap IntKind.u64 (IntKind.wrap IntKind.u64 (List.getD (limbs (Int.natAbs a)) (Int.toNat (↑(MulS.i i_1) : Int)) (0 : Int)) * IntKind.wrap IntKind.u64 (List.getD (limbs (Int.natAbs b)) (Int.toNat (↑(MulS.k i_1) : Int)) (0 : Int))) + IntKind.wrap IntKind.u64 (List.getD (MulS.out i_1) ((0 : Nat) + Int.toNat (IntKind.wrap IntKind.i64 ((↑(MulS.i i_1) : Int) + (↑(MulS.k i_1) : Int)))) (0 : Int))))) ((2 : Int) ^ min (Int.toNat (32 : Int)) (IntKind.bits IntKind.u64)) = MulS.c j ∧ IntKind.wrap IntKind.i64 ((↑(MulS.k i_1) : Int) + 1) = (↑(MulS.k j) : Int) ∧ True) ∧ LeB a a n n ∧ LeB b b m m ∧ LeB 0 0 0 0 ∧ List.set (MulS.out i_1) ((0 : Nat) + Int.toNat (IntKind.wrap IntKind.i64 ((↑(MulS.i i_1) : Int) + (↑(MulS.k i_1) : Int)))) (IntKind.wrap IntKind.u32 (IntKind.wrap IntKind.u64 (MulS.c i_1 + IntKind.wrap IntKind.u64 (IntKind.wrap IntKind.u64 (IntKind.wrap IntKind.u64 (List.getD (limbs (Int.natAbs a)) (Int.toNat (↑(MulS.i i_1) : Int)) (0 : Int)) * IntKind.wrap IntKind.u64 (List.getD (limbs (Int.natAbs b)) (Int.toNat (↑(MulS.k i_1) : Int)) (0 : Int))) + IntKind.wrap IntKind.u64 (List.getD (MulS.out i_1) ((0 : Nat) + Int.toNat (IntKind.wrap IntKind.i64 ((↑(MulS.i i_1) : Int) + (↑(MulS.k i_1) : Int)))) (0 : Int)))))) = MulS.out j ∧ True) ∧ List.length (limbs (Int.natAbs b)) - MulS.k j < List.length (limbs (Int.natAbs b)) - MulS.k i_1 else ((0 : Int) ≤ IntKind.wrap IntKind.i64 ((↑(MulS.i i_1) : Int) + (↑(List.length (limbs (Int.natAbs b))) : Int)) ∧ IntKind.wrap IntKind.i64 ((↑(MulS.i i_1) : Int) + (↑(List.length (limbs (Int.natAbs b))) : Int)) < (↑(List.length (limbs (Int.natAbs a)) + List.length (limbs (Int.natAbs b))) : Int)) ∧ (0 : Nat) + Int.toNat (IntKind.wrap IntKind.i64 ((↑(MulS.i i_1) : Int) + (↑(List.length (limbs (Int.natAbs b))) : Int))) < List.length (MulS.out i_1) ∧ ∃ j, MulO (limbs (Int.natAbs a)) (limbs (Int.natAbs b)) j ∧ (((0 : Nat) = 0 ∧ (0 : Nat) = 0 ∧ (0 : Nat) = 0 ∧ ((0 : Nat) = 0 ∧ List.length (limbs (Int.natAbs a)) + List.length (limbs (Int.natAbs b)) = List.length (limbs (Int.natAbs a)) + List.length (limbs (Int.natAbs b))) ∧ IntKind.wrap IntKind.i64 ((↑(MulS.i i_1) : Int) + 1) = (↑(MulS.i j) : Int) ∧ True) ∧ LeB a a n n ∧ LeB b b m m ∧ LeB 0 0 0 0 ∧ List.set (MulS.out i_1) ((0 : Nat) + Int.toNat (IntKind.wrap IntKind.i64 ((↑(MulS.i i_1) : Int) + (↑(List.length (limbs (Int.natAbs b))) : Int)))) (IntKind.wrap IntKind.u32 (MulS.c i_1)) = MulS.out j ∧ True) ∧ List.length (limbs (Int.natAbs a)) - MulS.i j < List.length (limbs (Int.natAbs a)) - MulS.i i else ((0 : Nat) + (List.length (limbs (Int.natAbs a)) + List.length (limbs (Int.natAbs b))) ≤ List.length (MulS.out i) ∧ (∀ (x : Int), x ∈ List.take (List.length (limbs (Int.natAbs a)) + List.length (limbs (Int.natAbs b))) (List.drop (0 : Nat) (MulS.out i)) → (0 : Int) ≤ x ∧ x < 4294967296) ∧ List.length (List.take (List.length (limbs (Int.natAbs a)) + List.length (limbs (Int.natAbs b))) (List.drop (0 : Nat) (MulS.out i))) ≤ 1000000000) ∧ sg (!decide (a < 0) == decide (b < 0)) (wv (List.take (List.length (limbs (Int.natAbs a)) + List.length (limbs (Int.natAbs b))) (List.drop (0 : Nat) (MulS.out i)))) = a * b ∧ ((32 : Nat) * List.length (List.take (List.length (limbs (Int.natAbs a)) + List.length (limbs (Int.natAbs b))) (List.drop (0 : Nat) (MulS.out i))) ≤ n + m ∨ Int.natAbs (sg (!decide (a < 0) == decide (b < 0)) (wv (List.take (List.length (limbs (Int.natAbs a)) + List.length (limbs (Int.natAbs b))) (List.drop (0 : Nat) (MulS.out i))))) < 2 ^ (n + m))) = evFn (env [c_rmade] (a_rmul a b n m)) Tryz.f46 [.big a n, .big b m] (MRes.sat (.ret (.big (a * b) (n + m)))) := by kernel_rfl
theorem sg_mul (a b : Int) : sg (!(decide (a < 0) == decide (b < 0))) ((a.natAbs : Int) * (b.natAbs : Int)) = a * b := by
 have e : ((a.natAbs : Int) * (b.natAbs : Int)) = ((a * b).natAbs : Int) := by rw [Int.natAbs_mul, Int.natCast_mul]
 rw [e]
 rcases Int.lt_or_le a 0 with h1 | h1 <;> rcases Int.lt_or_le b 0 with h2 | h2
 ·rw [show decide (a < 0) = true from decide_eq_true h1, show decide (b < 0) = true from decide_eq_true h2]
  show ((a * b).natAbs : Int) = a * b
  have := Int.mul_nonneg_of_nonpos_of_nonpos (show a ≤ 0 by omega) (show b ≤ 0 by omega)
  omega
 ·rw [show decide (a < 0) = true from decide_eq_true h1, show decide (b < 0) = false from decide_eq_false (by omega)]
  show -((a * b).natAbs : Int) = a * b
  have := Int.mul_nonpos_of_nonpos_of_nonneg (show a ≤ 0 by omega) h2
  omega
 ·rw [show decide (a < 0) = false from decide_eq_false (by omega), show decide (b < 0) = true from decide_eq_true h2]
  show -((a * b).natAbs : Int) = a * b
  have := Int.mul_nonpos_of_nonneg_of_nonpos h1 (show b ≤ 0 by omega)
  omega
 ·rw [show decide (a < 0) = false from decide_eq_false (by omega), show decide (b < 0) = false from decide_eq_false (by omega)]
  show ((a * b).natAbs : Int) = a * b
  have := Int.mul_nonneg h1 h2
  omega
theorem wv_nat_lt (k : Nat) : (k : Int) < 4294967296 ^ (limbs k).length := by
 have := limbs_lt k
 rw [← cast_pow32]; omega
theorem p_radd : GoodF Tryz.f58 s_iadd := by
 intro ms p r h hp hf
 unfold s_iadd at h
 split at h
 ·rename_i a n b m
  simp only [Option.some.injEq, Prod.mk.injEq] at h
  obtain ⟨rfl, rfl⟩ := h
  obtain ⟨hn, hm⟩ : n ≤ 1000000 ∧ m ≤ 1000000 := hp
  have ha : a.natAbs < 2 ^ n := hf.1
  have hb : b.natAbs < 2 ^ m := hf.2.1
  refine ⟨env [c_rmade, c_rplus, c_rminus, c_rsize] noAnn, ?_⟩
  have h1 : 2 ^ n ≤ 2 ^ max n m := Nat.pow_le_pow_right (by omega) (by omega)
  have h2 : 2 ^ m ≤ 2 ^ max n m := Nat.pow_le_pow_right (by omega) (by omega)
  have h3 : 2 ^ (max n m + 1) = 2 ^ max n m * 2 := Nat.pow_succ ..
  have hab : (a + b).natAbs < 2 ^ (max n m + 1) := by omega
  have l1 := lim_len ha (by omega)
  have l2 := lim_len hb (by omega)
  have w1 := wv_nat_lt a.natAbs
  have w2 := wv_nat_lt b.natAbs
  have mono : ∀ x y : Nat, x ≤ y → (limbs x).length ≤ (limbs y).length := fun x y hxy => limbs_len_le (Nat.lt_of_le_of_lt hxy (limbs_lt y))
  rw [← vc_radd a b n m]
  simp only [wvl, digs_len, Int.toNat_natCast]
  have hS : wv (digs (max (limbs a.natAbs).length (limbs b.natAbs).length + 1) ((a.natAbs : Int) + (b.natAbs : Int))) = (a.natAbs : Int) + (b.natAbs : Int) := by
   refine wv_digs _ _ (by omega) ?_
   have k1 := pow_le32 (show (limbs a.natAbs).length ≤ max (limbs a.natAbs).length (limbs b.natAbs).length by omega)
   have k2 := pow_le32 (show (limbs b.natAbs).length ≤ max (limbs a.natAbs).length (limbs b.natAbs).length by omega)
   rw [Int.pow_succ]; omega
  have hD1 : b.natAbs ≤ a.natAbs → wv (digs (limbs a.natAbs).length ((a.natAbs : Int) - (b.natAbs : Int))) = (a.natAbs : Int) - (b.natAbs : Int) := fun h => wv_digs _ _ (by omega) (by omega)
  have hD2 : a.natAbs ≤ b.natAbs → wv (digs (limbs b.natAbs).length ((b.natAbs : Int) - (a.natAbs : Int))) = (b.natAbs : Int) - (a.natAbs : Int) := fun h => wv_digs _ _ (by omega) (by omega)
  cases hs : (decide (a < 0) == decide (b < 0)) with
  | true =>
   rw [cond_true, hS]
   have hs : (a < 0) = (b < 0) := by simpa [beq_iff_eq] using hs
   have hs : a < 0 ↔ b < 0 := by rw [hs]
   have es : sg (decide (a < 0)) ((a.natAbs : Int) + (b.natAbs : Int)) = a + b := by
    unfold sg
    by_cases h : a < 0 <;> simp [h] <;> omega
   exact ⟨⟨limbs_wd _, limbs_wd _, by omega, by omega⟩, ⟨digs_wd _ _, by omega⟩, es, .inr (by rw [es]; exact hab)⟩
  | false =>
   rw [cond_false, Bool.cond_decide]
   have hs : ¬ (a < 0 ↔ b < 0) := by
    intro h
    have : decide (a < 0) = decide (b < 0) := decide_eq_decide.2 h
    rw [this] at hs; simp at hs
   refine ⟨⟨True.intro, True.intro, by omega, by omega⟩, ?_⟩
   split
   ·rename_i hc
    have hc : b.natAbs ≤ a.natAbs := by unfold icmp at hc; split at hc <;> (try split at hc) <;> omega
    rw [hD1 hc]
    have es : sg (decide (a < 0)) ((a.natAbs : Int) - (b.natAbs : Int)) = a + b := by
     unfold sg
     by_cases h : a < 0 <;> simp [h] <;> omega
    exact ⟨⟨limbs_wd _, limbs_wd _, by omega, mono _ _ hc, by omega⟩, ⟨digs_wd _ _, by omega⟩, es, .inr (by rw [es]; exact hab)⟩
   ·rename_i hc
    have hc : a.natAbs ≤ b.natAbs := by unfold icmp at hc; split at hc <;> (try split at hc) <;> omega
    rw [hD2 hc]
    have es : sg (decide (b < 0)) ((b.natAbs : Int) - (a.natAbs : Int)) = a + b := by
     unfold sg
     by_cases h : b < 0 <;> simp [h] <;> omega
    exact ⟨⟨limbs_wd _, limbs_wd _, by omega, mono _ _ hc, by omega⟩, ⟨digs_wd _ _, by omega⟩, es, .inr (by rw [es]; exact hab)⟩
 ·simp at h
def c_radd : Ctr Tryz.prog := ⟨58, s_iadd, fun args w => Tryz.call58 args w, fn_ok_facts mix Tryz.func58 s_iadd p_radd⟩
theorem p_rmul : GoodF Tryz.f46 s_mul := by
 intro ms p r h hp hf
 unfold s_mul at h
 split at h
 ·rename_i a n b m
  simp only [Option.some.injEq, Prod.mk.injEq] at h
  obtain ⟨rfl, rfl⟩ := h
  obtain ⟨hn, hm⟩ : n ≤ 1000000 ∧ m ≤ 1000000 := hp
  have ha : a.natAbs < 2 ^ n := hf.1
  have hb : b.natAbs < 2 ^ m := hf.2.1
  refine ⟨env [c_rmade] (a_rmul a b n m), ?_⟩
  have hab : (a * b).natAbs < 2 ^ (n + m) := by
   rw [Int.natAbs_mul, Nat.pow_add]
   exact Nat.mul_lt_mul_of_lt_of_le ha (by omega) (Nat.two_pow_pos m)
  rw [← vc_rmul a b n m]
  have l1 := lim_len ha (by omega)
  have l2 := lim_len hb (by omega)
  have hwa := limbs_wd a.natAbs
  have hwb := limbs_wd b.natAbs
  have ev1 := wvl a.natAbs
  have ev2 := wvl b.natAbs
  generalize limbs a.natAbs = A at *
  generalize limbs b.natAbs = B at *
  have ew : IntKind.i64.wrap ((A.length : Int) + B.length) = ((A.length + B.length : Nat) : Int) := by rw [i64w (by omega) (by omega)]; omega
  simp only [Bool.cond_decide, ew, Nat.zero_add, Int.toNat_natCast, List.drop_zero, p32]
  refine ⟨(by and_intros <;> first | exact True.intro | rfl | omega), ⟨⟨0, 0, List.replicate (A.length + B.length) 0, 0⟩, ⟨by show 0 ≤ _; omega, by simp, Wd.replicate _, by show wv (List.replicate _ 0) = _; rw [wv_replicate]; simp [wv], fun j _ => ?_⟩, (by and_intros <;> first | exact True.intro | rfl | omega), ⟨(by and_intros <;> first | exact True.intro | rfl | omega), .inl (Nat.le_refl _)⟩, ⟨(by and_intros <;> first | exact True.intro | rfl | omega), .inl (Nat.le_refl _)⟩, ⟨(by and_intros <;> first | exact True.intro | rfl | omega), .inl (Nat.le_refl _)⟩, (by and_intros <;> first | exact True.intro | rfl | omega)⟩, ?_⟩
  ·show (List.replicate _ (0 : Int)).getD j 0 = 0
   simp [List.getElem?_replicate]; split <;> rfl
  ·intro s hs
   split
   ·rename_i hlt
    have hi : s.i < A.length := by omega
    refine ⟨⟨⟨s.i, 0, s.out, 0⟩, ⟨⟨hi, by show 0 ≤ _; omega, hs.len, hs.wd, ⟨Int.le_refl _, by show (0 : Int) < 4294967296; omega⟩, ?_, hs.rest⟩, (by and_intros <;> first | exact True.intro | rfl | omega)⟩, (by and_intros <;> first | exact True.intro | rfl | omega), ⟨(by and_intros <;> first | exact True.intro | rfl | omega), .inl (Nat.le_refl _)⟩, ⟨(by and_intros <;> first | exact True.intro | rfl | omega), .inl (Nat.le_refl _)⟩, ⟨(by and_intros <;> first | exact True.intro | rfl | omega), .inl (Nat.le_refl _)⟩, (by and_intros <;> first | exact True.intro | rfl | omega)⟩, fun t ⟨ht, hti⟩ => ?_⟩
    ·show wv s.out + 4294967296 ^ (s.i + 0) * 0 = wv (A.take s.i) * wv B + 4294967296 ^ s.i * (A.getD s.i 0 * wv (B.take 0))
     rw [hs.sum]; simp [wv]
    ·have hti : (t.i : Int) = s.i := by simpa using hti
     have hti : t.i = s.i := by omega
     have hk := ht.hk
     have hl := ht.len
     have ek : IntKind.i64.wrap ((t.i : Int) + t.k) = ((t.i + t.k : Nat) : Int) := by rw [i64w (by omega) (by omega)]; omega
     have eb : IntKind.i64.wrap ((t.i : Int) + B.length) = ((t.i + B.length : Nat) : Int) := by rw [i64w (by omega) (by omega)]; omega
     have e1 : IntKind.i64.wrap ((t.k : Int) + 1) = ((t.k + 1 : Nat) : Int) := by rw [i64w (by omega) (by omega)]; omega
     have e2 : IntKind.i64.wrap ((t.i : Int) + 1) = ((t.i + 1 : Nat) : Int) := by rw [i64w (by omega) (by omega)]; omega
     simp only [ek, eb, e1, e2, Int.toNat_natCast]
     split
     ·rename_i hkl
      obtain ⟨hp, h0, h1, hst⟩ := ht.step hwa hwb (by omega) _ rfl
      have ga := hwa.getD t.i
      have gb := hwb.getD t.k
      have go := ht.wd.getD (t.i + t.k)
      have hc := ht.c0
      have x1 : IntKind.u64.wrap (A.getD t.i 0) = A.getD t.i 0 := eu64 (by omega)
      have x2 : IntKind.u64.wrap (B.getD t.k 0) = B.getD t.k 0 := eu64 (by omega)
      have x3 : IntKind.u64.wrap (t.out.getD (t.i + t.k) 0) = t.out.getD (t.i + t.k) 0 := eu64 (by omega)
      have x4 : IntKind.u64.wrap (A.getD t.i 0 * B.getD t.k 0) = A.getD t.i 0 * B.getD t.k 0 := eu64 (by omega)
      have x5 : IntKind.u64.wrap (A.getD t.i 0 * B.getD t.k 0 + t.out.getD (t.i + t.k) 0) = A.getD t.i 0 * B.getD t.k 0 + t.out.getD (t.i + t.k) 0 := eu64 (by omega)
      have x6 : IntKind.u64.wrap (t.c + (A.getD t.i 0 * B.getD t.k 0 + t.out.getD (t.i + t.k) 0)) = A.getD t.i 0 * B.getD t.k 0 + t.out.getD (t.i + t.k) 0 + t.c := by rw [eu64 (by omega)]; omega
      simp only [x1, x2, x3, x4, x5, x6]
      rw [Int.fdiv_eq_ediv_of_nonneg _ (by omega), u32w]
      exact ⟨(by and_intros <;> first | exact True.intro | rfl | omega), (by and_intros <;> first | exact True.intro | rfl | omega), (by and_intros <;> first | exact True.intro | rfl | omega), by omega, (by and_intros <;> first | exact True.intro | rfl | omega), by omega, by omega, _, ⟨hst, by rw [hti]⟩, ⟨(by and_intros <;> first | exact True.intro | rfl | omega), ⟨(by and_intros <;> first | exact True.intro | rfl | omega), .inl (Nat.le_refl _)⟩, ⟨(by and_intros <;> first | exact True.intro | rfl | omega), .inl (Nat.le_refl _)⟩, ⟨(by and_intros <;> first | exact True.intro | rfl | omega), .inl (Nat.le_refl _)⟩, (by and_intros <;> first | exact True.intro | rfl | omega)⟩, by show B.length - (t.k + 1) < B.length - t.k; omega⟩
     ·rename_i hkl
      have hc := ht.c0
      have e3 : IntKind.u32.wrap t.c = t.c := by rw [u32w]; omega
      rw [e3]
      exact ⟨(by and_intros <;> first | exact True.intro | rfl | omega), by omega, _, ht.done (by omega), ⟨(by and_intros <;> first | exact True.intro | rfl | omega), ⟨(by and_intros <;> first | exact True.intro | rfl | omega), .inl (Nat.le_refl _)⟩, ⟨(by and_intros <;> first | exact True.intro | rfl | omega), .inl (Nat.le_refl _)⟩, ⟨(by and_intros <;> first | exact True.intro | rfl | omega), .inl (Nat.le_refl _)⟩, (by and_intros <;> first | exact True.intro | rfl | omega)⟩, by show A.length - (t.i + 1) < A.length - s.i; omega⟩
   ·rename_i hlt
    have e : s.i = A.length := by have := hs.hi; omega
    have hsum := hs.sum
    have hl := hs.len
    have e2 : s.out.take (A.length + B.length) = s.out := List.take_of_length_le (by omega)
    rw [e, List.take_length, ev1, ev2] at hsum
    rw [e2, hsum, sg_mul]
    exact ⟨⟨by omega, hs.wd, by omega⟩, rfl, .inr hab⟩
 ·simp at h
def c_rmul : Ctr Tryz.prog := ⟨46, s_mul, fun args w => Tryz.call46 args w, fn_ok_facts mix Tryz.func46 s_mul p_rmul⟩
theorem vc_rsub (a b : Int) (n m : Nat) : (m ≤ 1000000 ∧ (n ≤ 1000000 ∧ m ≤ 1000000) ∧ a + -b = a - b ∧ (max n m + 1 ≤ max n m + 1 ∨ Int.natAbs (a + -b) < 2 ^ (max n m + 1))) = evFn (env [c_radd, c_rneg] noAnn) Tryz.f56 [.big a n, .big b m] (MRes.sat (.ret (.big (a - b) (max n m + 1)))) := by kernel_rfl
theorem p_rsub : Good Tryz.f56 s_isub := by
 intro ms p r h hp
 unfold s_isub at h
 split at h
 ·rename_i a n b m
  simp only [Option.some.injEq, Prod.mk.injEq] at h
  obtain ⟨rfl, rfl⟩ := h
  obtain ⟨hn, hm⟩ : n ≤ 1000000 ∧ m ≤ 1000000 := hp
  refine ⟨env [c_radd, c_rneg] noAnn, ?_⟩
  rw [← vc_rsub a b n m]
  exact ⟨hm, ⟨hn, hm⟩, by omega, .inl (Nat.le_refl _)⟩
 ·simp at h
def c_rsub : Ctr Tryz.prog := ⟨56, s_isub, fun args w => Tryz.call56 args w, fn_ok mix Tryz.func56 s_isub p_rsub⟩
def a_rbits (z : Int) (n : Nat) : Nat → MS → Option LoopAnn
 | 5, _ => some (.inv (Nat × Nat) (fun s => s.1 + bl s.2 = bl z.natAbs ∧ s.2 < 4294967296 ∧ s.1 ≤ 1000000000) (fun s => ⟨29, [(1, .bp 0 0), (3, .int .i64 s.1), (4, .int .u32 s.2)], [⟨false, .one (.big z n)⟩], 0⟩) (fun s => s.2))
 | _, _ => none
end Go.Proofs.YtnfmjlhkknndhaaGreat
/-
 Contracts of functions: the reference of layer 1: bits, division.
-/
namespace Go.Proofs.YtnfmjlhkknndhaaGreat
open Go Go.RowKit
theorem vc_rbits (z : Int) (n : Nat) : (bif (↑(List.length (limbs (Int.natAbs z))) : Int) == 0 then (0 : Int) = (↑(bl (Int.natAbs z)) : Int) else ((0 : Int) ≤ IntKind.wrap IntKind.i64 ((↑(List.length (limbs (Int.natAbs z))) : Int) - 1) ∧ IntKind.wrap IntKind.i64 ((↑(List.length (limbs (Int.natAbs z))) : Int) - 1) < (↑(List.length (limbs (Int.natAbs z))) : Int)) ∧ (∃ i, (Prod.fst i + bl (Prod.snd i) = bl (Int.natAbs z) ∧ Prod.snd i < 4294967296 ∧ Prod.fst i ≤ 1000000000) ∧ ((0 : Nat) = 0 ∧ IntKind.wrap IntKind.i64 ((32 : Int) * IntKind.wrap IntKind.i64 ((↑(List.length (limbs (Int.natAbs z))) : Int) - 1)) = (↑(Prod.fst i) : Int) ∧ List.getD (limbs (Int.natAbs z)) (Int.toNat (IntKind.wrap IntKind.i64 ((↑(List.length (limbs (Int.natAbs z))) : Int) - 1))) (0 : Int) = (↑(Prod.snd i) : Int) ∧ True) ∧ LeB z z n n ∧ True) ∧ ∀ (i : Nat × Nat), Prod.fst i + bl (Prod.snd i) = bl (Int.natAbs z) ∧ Prod.snd i < 4294967296 ∧ Prod.fst i ≤ 1000000000 → bif decide ((↑(Prod.snd i) : Int) > 0) then ((2 : Int) = 0 → False) ∧ ∃ j, (Prod.fst j + bl (Prod.snd j) = bl (Int.natAbs z) ∧ Prod.snd j < 4294967296 ∧ Prod.fst j ≤ 1000000000) ∧ (((0 : Nat) = 0 ∧ IntKind.wrap IntKind.i64 ((↑(Prod.fst i) : Int) + 1) = (↑(Prod.fst j) : Int) ∧ IntKind.wrap IntKind.u32 (Int.tdiv (↑(Prod.snd i) : Int) (2 : Int)) = (↑(Prod.snd j) : Int) ∧ True) ∧ LeB z z n n ∧ True) ∧ Prod.snd j < Prod.snd i else (↑(Prod.fst i) : Int) = (↑(bl (Int.natAbs z)) : Int)) = evFn (env [] (a_rbits z n)) Tryz.f118 [.big z n] (MRes.sat (.ret (.int .i64 (bl z.natAbs)))) := by kernel_rfl
theorem bl_half {x : Nat} (h : x ≠ 0) : bl x = bl (x / 2) + 1 := by
 by_cases h2 : x / 2 = 0
 ·have : x = 1 := by omega
  subst this; decide
 ·have := bl_mul (n := x / 2) h2 (x % 2) (k := 1) (by omega)
  rw [← this]; congr 1; omega
theorem p_rbits : GoodF Tryz.f118 s_bits := by
 intro ms p r h hp hf
 unfold s_bits at h
 split at h
 ·rename_i z n
  simp only [Option.some.injEq, Prod.mk.injEq] at h
  obtain ⟨rfl, rfl⟩ := h
  have hn : n ≤ 1000000 := hp
  have hz : z.natAbs < 2 ^ n := hf.1
  refine ⟨env [] (a_rbits z n), ?_⟩
  rw [← vc_rbits z n, len_zero_iff]
  by_cases h0 : z = 0
  ·subst h0
   rw [show decide ((0 : Int) = 0) = true from rfl, cond_true]; rfl
  ·rw [decide_eq_false h0, cond_false]
   have hne : limbs z.natAbs ≠ [] := fun e => h0 (by have := limbs_eq_nil.1 e; omega)
   have hp : 0 < (limbs z.natAbs).length := List.length_pos_iff.2 hne
   have l1 := lim_len hz (by omega)
   have e1 : IntKind.i64.wrap (((limbs z.natAbs).length : Int) - 1) = (((limbs z.natAbs).length - 1 : Nat) : Int) := by rw [i64w (by omega) (by omega)]; omega
   have e2 : IntKind.i64.wrap ((32 : Int) * (((limbs z.natAbs).length - 1 : Nat) : Int)) = ((32 * ((limbs z.natAbs).length - 1) : Nat) : Int) := by rw [i64w (by omega) (by omega)]; omega
   have hb := bl_words (cn_limbs z.natAbs) hne
   rw [wvl, Int.toNat_natCast] at hb
   have hd := (limbs_wd z.natAbs).getD ((limbs z.natAbs).length - 1)
   have hbl : bl z.natAbs ≤ n := bl_le_of hz
   obtain ⟨x, hx⟩ : ∃ x : Nat, (limbs z.natAbs).getD ((limbs z.natAbs).length - 1) 0 = x := ⟨_, (Int.toNat_of_nonneg hd.1).symm⟩
   rw [e1, e2, Int.toNat_natCast, hx]
   rw [hx, Int.toNat_natCast] at hb
   refine ⟨(by and_intros <;> first | exact True.intro | rfl | omega), ⟨(32 * ((limbs z.natAbs).length - 1), x), ⟨hb.symm, by show x < _; omega, by show 32 * _ ≤ _; omega⟩, (by and_intros <;> first | exact True.intro | rfl | omega), ⟨rfl, .inl (Nat.le_refl _)⟩, True.intro⟩, ?_⟩
   rintro ⟨k, y⟩ ⟨h1, h2, h3⟩
   have h1 : k + bl y = bl z.natAbs := h1
   have h2 : y < 4294967296 := h2
   simp only [Bool.cond_decide]
   split
   ·rename_i hy
    have hy0 : y ≠ 0 := by omega
    have hh := bl_half hy0
    have e3 : IntKind.i64.wrap ((k : Int) + 1) = ((k + 1 : Nat) : Int) := by rw [i64w (by omega) (by omega)]; omega
    have e4 : IntKind.u32.wrap (Int.tdiv (y : Int) 2) = ((y / 2 : Nat) : Int) := by
     have : Int.tdiv (y : Int) 2 = ((y / 2 : Nat) : Int) := rfl
     rw [this, eu32 (by omega)]
    rw [e3, e4]
    exact ⟨fun e => by omega, ⟨k + 1, y / 2⟩, ⟨by show k + 1 + bl (y / 2) = _; omega, by show y / 2 < _; omega, by show k + 1 ≤ _; omega⟩, ⟨(by and_intros <;> first | exact True.intro | rfl | omega), ⟨(by and_intros <;> first | exact True.intro | rfl | omega), .inl (Nat.le_refl _)⟩, (by and_intros <;> first | exact True.intro | rfl | omega)⟩, by show y / 2 < y; omega⟩
   ·rename_i hy
    have : y = 0 := by omega
    subst this
    rw [bl_zero, Nat.add_zero] at h1
    rw [h1]
 ·simp at h
def c_rbits : Ctr Tryz.prog := ⟨118, s_bits, fun args w => Tryz.call118 args w, fn_ok_facts mix Tryz.func118 s_bits p_rbits⟩
/-! ### reaches -/
def s_rreach : FSpec
 | [.ws a, .ws b] => some (some (Wd a ∧ Wd b ∧ a.length ≤ 1000000000 ∧ b.length ≤ 1000000000), .ret (.bool (decide (wv b ≤ wv a))))
 | _ => none
def a_rreach (a b : List Int) : Nat → MS → Option LoopAnn
 | 2, _ => some (.inv Nat (fun k => k ≤ max a.length b.length ∧ wv (a.drop k) = wv (b.drop k)) (fun k => ⟨30, [(0, .ws a), (1, .ws b), (5, .int .i64 ((k : Int) - 1))], [], 0⟩) id)
 | _, _ => none
theorem vc_rreach (a b : List Int) : ((∃ i, (i ≤ max (List.length a) (List.length b) ∧ wv (List.drop i a) = wv (List.drop i b)) ∧ (a = a ∧ b = b ∧ IntKind.wrap IntKind.i64 (maxI (↑(List.length a) : Int) (↑(List.length b) : Int) - 1) = (↑i : Int) - 1 ∧ True) ∧ True) ∧ ∀ (i : Nat), i ≤ max (List.length a) (List.length b) ∧ wv (List.drop i a) = wv (List.drop i b) → bif decide ((↑i : Int) - 1 ≥ 0) then (∀ (x : Int), x ∈ a → (0 : Int) ≤ x ∧ x < 4294967296) ∧ (∀ (x : Int), x ∈ b → (0 : Int) ≤ x ∧ x < 4294967296) ∧ bif wdg a ((↑i : Int) - 1) != wdg b ((↑i : Int) - 1) then (∀ (x : Int), x ∈ a → (0 : Int) ≤ x ∧ x < 4294967296) ∧ (∀ (x : Int), x ∈ b → (0 : Int) ≤ x ∧ x < 4294967296) ∧ decide (wdg a ((↑i : Int) - 1) > wdg b ((↑i : Int) - 1)) = decide (wv b ≤ wv a) else ∃ j, (j ≤ max (List.length a) (List.length b) ∧ wv (List.drop j a) = wv (List.drop j b)) ∧ ((a = a ∧ b = b ∧ IntKind.wrap IntKind.i64 ((↑i : Int) - 1 - 1) = (↑j : Int) - 1 ∧ True) ∧ True) ∧ id j < id i else true = decide (wv b ≤ wv a)) = evFn (env [c_rword] (a_rreach a b)) Tryz.f133 [.ws a, .ws b] (MRes.sat (.ret (.bool (decide (wv b ≤ wv a))))) := by kernel_rfl
/-! ### left -/
def s_rleft : List MV → Option (OProp × List Int)
 | [.ws l, .int .i64 n] => some (some (Wd l ∧ 0 ≤ n ∧ n ≤ 1000000000 ∧ l.length ≤ 1000000000), digs (n.toNat / 32 + l.length + 1) (wv l * 2 ^ n.toNat))
 | _ => none
structure RlI (l : List Int) (n : Nat) (s : DwS) : Prop where
 hk : s.k ≤ l.length + 1
 len : s.out.length = n / 32 + s.k
 wd : Wd s.out
 sum : wv s.out + 4294967296 ^ (n / 32 + s.k) * (wdg l ((s.k : Int) - 1) * 2 ^ (n % 32) / 4294967296) = wv (l.take s.k) * 2 ^ n
def a_rleft (l : List Int) (n : Nat) : Nat → MS → Option LoopAnn
 | 4, _ => some (.inv DwS (RlI l n) (fun s => ⟨38, [(0, .ws l), (5, .bs 0 0 (n / 32 + s.k)), (6, .int .u64 ((n % 32 : Nat) : Int)), (7, .int .i64 s.k)], [⟨false, .arr .u32 s.out⟩], 0⟩) (fun s => l.length + 1 - s.k))
 | _, _ => none
theorem vc_rleft (l : List Int) (n : Nat) : (((32 : Int) = 0 → False) ∧ ((0 : Int) ≤ IntKind.wrap IntKind.i64 (Int.tdiv (↑n : Int) (32 : Int)) ∧ IntKind.wrap IntKind.i64 (Int.tdiv (↑n : Int) (32 : Int)) = IntKind.wrap IntKind.i64 (Int.tdiv (↑n : Int) (32 : Int)) ∧ (↑(4 : Nat) : Int) * IntKind.wrap IntKind.i64 (Int.tdiv (↑n : Int) (32 : Int)) ≤ 140737488355328) ∧ ((32 : Int) = 0 → False) ∧ (∃ i, RlI l n i ∧ (l = l ∧ ((0 : Nat) = 0 ∧ Int.toNat (IntKind.wrap IntKind.i64 (Int.tdiv (↑n : Int) (32 : Int))) = n / 32 + DwS.k i) ∧ IntKind.wrap IntKind.u64 (Int.tmod (↑n : Int) (32 : Int)) = (↑(n % 32) : Int) ∧ (0 : Int) = (↑(DwS.k i) : Int) ∧ True) ∧ List.replicate (Int.toNat (IntKind.wrap IntKind.i64 (Int.tdiv (↑n : Int) (32 : Int)))) (0 : Int) = DwS.out i ∧ True) ∧ ∀ (i : DwS), RlI l n i → bif decide ((↑(DwS.k i) : Int) ≤ (↑(List.length l) : Int)) then (∀ (x : Int), x ∈ l → (0 : Int) ≤ x ∧ x < 4294967296) ∧ (0 : Int) ≤ (↑(n % 32) : Int) ∧ (∀ (x : Int), x ∈ l → (0 : Int) ≤ x ∧ x < 4294967296) ∧ (0 : Int) ≤ (↑(n % 32) : Int) ∧ (0 : Int) ≤ 32 ∧ ((0 : Nat) + 1 ≤ List.length [IntKind.wrap IntKind.u32 (IntKind.wrap IntKind.u64 (↑(BitVec.toNat (BitVec.ofInt (IntKind.bits IntKind.u64) (IntKind.wrap IntKind.u64 (wdg l (↑(DwS.k i) : Int) * 2 ^ min (Int.toNat (↑(n % 32) : Int)) (IntKind.bits IntKind.u64))) ||| BitVec.ofInt (IntKind.bits IntKind.u64) (Int.fdiv (IntKind.wrap IntKind.u64 (wdg l (IntKind.wrap IntKind.i64 ((↑(DwS.k i) : Int) - 1)) * 2 ^ min (Int.toNat (↑(n % 32) : Int)) (IntKind.bits IntKind.u64))) ((2 : Int) ^ min (Int.toNat (32 : Int)) (IntKind.bits IntKind.u64))))) : Int))] ∧ n / 32 + DwS.k i ≤ List.length (DwS.out i) ∧ (n / 32 + DwS.k i + News.len (News.ints IntKind.u32 (List.take (1 : Nat) (List.drop (0 : Nat) [IntKind.wrap IntKind.u32 (IntKind.wrap IntKind.u64 (↑(BitVec.toNat (BitVec.ofInt (IntKind.bits IntKind.u64) (IntKind.wrap IntKind.u64 (wdg l (↑(DwS.k i) : Int) * 2 ^ min (Int.toNat (↑(n % 32) : Int)) (IntKind.bits IntKind.u64))) ||| BitVec.ofInt (IntKind.bits IntKind.u64) (Int.fdiv (IntKind.wrap IntKind.u64 (wdg l (IntKind.wrap IntKind.i64 ((↑(DwS.k i) : Int) - 1)) * 2 ^ min (Int.toNat (↑(n % 32) : Int)) (IntKind.bits IntKind.u64))) ((2 : Int) ^ min (Int.toNat (32 : Int)) (IntKind.bits IntKind.u64))))) : Int))])))) * 4 ≤ 140737488355328) ∧ ∃ j, RlI l n j ∧ ((l = l ∧ ((0 : Nat) = 0 ∧ n / 32 + DwS.k i + News.len (News.ints IntKind.u32 (List.take (1 : Nat) (List.drop (0 : Nat) [IntKind.wrap IntKind.u32 (IntKind.wrap IntKind.u64 (↑(BitVec.toNat (BitVec.ofInt (IntKind.bits IntKind.u64) (IntKind.wrap IntKind.u64 (wdg l (↑(DwS.k i) : Int) * 2 ^ min (Int.toNat (↑(n % 32) : Int)) (IntKind.bits IntKind.u64))) ||| BitVec.ofInt (IntKind.bits IntKind.u64) (Int.fdiv (IntKind.wrap IntKind.u64 (wdg l (IntKind.wrap IntKind.i64 ((↑(DwS.k i) : Int) - 1)) * 2 ^ min (Int.toNat (↑(n % 32) : Int)) (IntKind.bits IntKind.u64))) ((2 : Int) ^ min (Int.toNat (32 : Int)) (IntKind.bits IntKind.u64))))) : Int))]))) = n / 32 + DwS.k j) ∧ (↑(n % 32) : Int) = (↑(n % 32) : Int) ∧ IntKind.wrap IntKind.i64 ((↑(DwS.k i) : Int) + 1) = (↑(DwS.k j) : Int) ∧ True) ∧ List.take (n / 32 + DwS.k i) (DwS.out i) ++ List.take (1 : Nat) (List.drop (0 : Nat) [IntKind.wrap IntKind.u32 (IntKind.wrap IntKind.u64 (↑(BitVec.toNat (BitVec.ofInt (IntKind.bits IntKind.u64) (IntKind.wrap IntKind.u64 (wdg l (↑(DwS.k i) : Int) * 2 ^ min (Int.toNat (↑(n % 32) : Int)) (IntKind.bits IntKind.u64))) ||| BitVec.ofInt (IntKind.bits IntKind.u64) (Int.fdiv (IntKind.wrap IntKind.u64 (wdg l (IntKind.wrap IntKind.i64 ((↑(DwS.k i) : Int) - 1)) * 2 ^ min (Int.toNat (↑(n % 32) : Int)) (IntKind.bits IntKind.u64))) ((2 : Int) ^ min (Int.toNat (32 : Int)) (IntKind.bits IntKind.u64))))) : Int))]) = DwS.out j ∧ True) ∧ List.length l + 1 - DwS.k j < List.length l + 1 - DwS.k i else (0 : Nat) = 0 ∧ n / 32 + DwS.k i = List.length (digs (n / 32 + List.length l + 1) (wv l * 2 ^ n)) ∧ (0 : Nat) < n / 32 + DwS.k i ∧ List.take (n / 32 + DwS.k i) (DwS.out i) = digs (n / 32 + List.length l + 1) (wv l * 2 ^ n)) = evNFn (env [c_rword] (a_rleft l n)) Tryz.f117 [.ws l, .int .i64 n] (digs (n / 32 + l.length + 1) (wv l * 2 ^ n)) := by kernel_rfl
/-! ### half, take -/
def s_rhalf : List MV → List BC → Option (OProp × List BC)
 | [.bs 0 0 n], [.arr .u32 l] => some (some (Wd l ∧ n = l.length ∧ n ≤ 1000000000), [.arr .u32 (digs l.length (wv l / 2))])
 | _, _ => none
def a_rhalf (l : List Int) : Nat → MS → Option LoopAnn
 | 1, _ => some (.inv DwS (fun s => ShrI l 1 s ∧ s.out.drop s.k = l.drop s.k) (fun s => ⟨23, [(0, .bs 0 0 l.length), (2, .int .i64 s.k)], [⟨false, .arr .u32 s.out⟩], 1⟩) (fun s => l.length - s.k))
 | _, _ => none
theorem vc_rhalf (l : List Int) : ((∃ i, (ShrI l (1 : Nat) i ∧ List.drop (DwS.k i) (DwS.out i) = List.drop (DwS.k i) l) ∧ (((0 : Nat) = 0 ∧ List.length l = List.length l) ∧ (0 : Int) = (↑(DwS.k i) : Int) ∧ True) ∧ l = DwS.out i ∧ True) ∧ ∀ (i : DwS), ShrI l (1 : Nat) i ∧ List.drop (DwS.k i) (DwS.out i) = List.drop (DwS.k i) l → bif decide ((↑(DwS.k i) : Int) < (↑(List.length l) : Int)) then ((0 : Nat) + List.length l ≤ List.length (DwS.out i) ∧ ∀ (x : Int), x ∈ List.take (List.length l) (List.drop (0 : Nat) (DwS.out i)) → (0 : Int) ≤ x ∧ x < 4294967296) ∧ (0 : Int) ≤ 1 ∧ ((0 : Nat) + List.length l ≤ List.length (DwS.out i) ∧ ∀ (x : Int), x ∈ List.take (List.length l) (List.drop (0 : Nat) (DwS.out i)) → (0 : Int) ≤ x ∧ x < 4294967296) ∧ (0 : Int) ≤ 31 ∧ ((0 : Int) ≤ (↑(DwS.k i) : Int) ∧ (↑(DwS.k i) : Int) < (↑(List.length l) : Int)) ∧ (0 : Nat) + Int.toNat (↑(DwS.k i) : Int) < List.length (DwS.out i) ∧ ∃ j, (ShrI l (1 : Nat) j ∧ List.drop (DwS.k j) (DwS.out j) = List.drop (DwS.k j) l) ∧ ((((0 : Nat) = 0 ∧ List.length l = List.length l) ∧ IntKind.wrap IntKind.i64 ((↑(DwS.k i) : Int) + 1) = (↑(DwS.k j) : Int) ∧ True) ∧ List.set (DwS.out i) ((0 : Nat) + Int.toNat (↑(DwS.k i) : Int)) (IntKind.wrap IntKind.u32 (IntKind.wrap IntKind.u64 (↑(BitVec.toNat (BitVec.ofInt (IntKind.bits IntKind.u64) (Int.fdiv (wdg (List.take (List.length l) (List.drop (0 : Nat) (DwS.out i))) (↑(DwS.k i) : Int)) ((2 : Int) ^ min (Int.toNat (1 : Int)) (IntKind.bits IntKind.u64))) ||| BitVec.ofInt (IntKind.bits IntKind.u64) (IntKind.wrap IntKind.u64 (wdg (List.take (List.length l) (List.drop (0 : Nat) (DwS.out i))) (IntKind.wrap IntKind.i64 ((↑(DwS.k i) : Int) + 1)) * 2 ^ min (Int.toNat (31 : Int)) (IntKind.bits IntKind.u64))))) : Int))) = DwS.out j ∧ True) ∧ List.length l - DwS.k j < List.length l - DwS.k i else DwS.out i = digs (List.length l) (wv l / 2) ∧ True) = evMFn (env [c_rword] (a_rhalf l)) Tryz.f135 [.bs 0 0 l.length] [.arr .u32 l] [.arr .u32 (digs l.length (wv l / 2))] := by kernel_rfl
def s_rtake : List MV → List BC → Option (OProp × List BC)
 | [.bs 0 0 n, .bs 1 0 m], [.arr .u32 a, .arr .u32 b] => some (some (Wd a ∧ Wd b ∧ n = a.length ∧ m = b.length ∧ n ≤ 1000000000 ∧ wv b ≤ wv a), [.arr .u32 (digs a.length (wv a - wv b)), .arr .u32 b])
 | _, _ => none
def a_rtake (a b : List Int) : Nat → MS → Option LoopAnn
 | 2, _ => some (.inv AddS (SubI a b) (fun s => ⟨33, [(0, .bs 0 0 a.length), (1, .bs 1 0 b.length), (4, .int .u64 s.c), (5, .int .i64 s.i)], [⟨false, .arr .u32 s.out⟩, ⟨false, .arr .u32 b⟩], 2⟩) (fun s => a.length - s.i))
 | _, _ => none
theorem vc_rtake (a b : List Int) : ((∃ i, SubI a b i ∧ (((0 : Nat) = 0 ∧ List.length a = List.length a) ∧ ((0 : Nat) = 0 ∧ List.length b = List.length b) ∧ (0 : Int) = AddS.c i ∧ (0 : Int) = (↑(AddS.i i) : Int) ∧ True) ∧ a = AddS.out i ∧ b = b ∧ True) ∧ ∀ (i : AddS), SubI a b i → bif decide ((↑(AddS.i i) : Int) < (↑(List.length a) : Int)) then ((0 : Int) ≤ (↑(AddS.i i) : Int) ∧ (↑(AddS.i i) : Int) < (↑(List.length a) : Int)) ∧ (0 : Nat) + Int.toNat (↑(AddS.i i) : Int) < List.length (AddS.out i) ∧ ((0 : Nat) + List.length b ≤ List.length b ∧ ∀ (x : Int), x ∈ List.take (List.length b) (List.drop (0 : Nat) b) → (0 : Int) ≤ x ∧ x < 4294967296) ∧ ((0 : Int) ≤ (↑(AddS.i i) : Int) ∧ (↑(AddS.i i) : Int) < (↑(List.length a) : Int)) ∧ (0 : Nat) + Int.toNat (↑(AddS.i i) : Int) < List.length (AddS.out i) ∧ (0 : Int) ≤ 32 ∧ ∃ j, SubI a b j ∧ ((((0 : Nat) = 0 ∧ List.length a = List.length a) ∧ ((0 : Nat) = 0 ∧ List.length b = List.length b) ∧ IntKind.wrap IntKind.u64 ((1 : Int) - Int.fdiv (IntKind.wrap IntKind.u64 (IntKind.wrap IntKind.u64 (IntKind.wrap IntKind.u64 ((4294967296 : Int) + IntKind.wrap IntKind.u64 (List.getD (AddS.out i) ((0 : Nat) + Int.toNat (↑(AddS.i i) : Int)) (0 : Int))) - wdg (List.take (List.length b) (List.drop (0 : Nat) b)) (↑(AddS.i i) : Int)) - AddS.c i)) ((2 : Int) ^ min (Int.toNat (32 : Int)) (IntKind.bits IntKind.u64))) = AddS.c j ∧ IntKind.wrap IntKind.i64 ((↑(AddS.i i) : Int) + 1) = (↑(AddS.i j) : Int) ∧ True) ∧ List.set (AddS.out i) ((0 : Nat) + Int.toNat (↑(AddS.i i) : Int)) (IntKind.wrap IntKind.u32 (IntKind.wrap IntKind.u64 (IntKind.wrap IntKind.u64 (IntKind.wrap IntKind.u64 ((4294967296 : Int) + IntKind.wrap IntKind.u64 (List.getD (AddS.out i) ((0 : Nat) + Int.toNat (↑(AddS.i i) : Int)) (0 : Int))) - wdg (List.take (List.length b) (List.drop (0 : Nat) b)) (↑(AddS.i i) : Int)) - AddS.c i))) = AddS.out j ∧ b = b ∧ True) ∧ List.length a - AddS.i j < List.length a - AddS.i i else AddS.out i = digs (List.length a) (wv a - wv b) ∧ b = b ∧ True) = evMFn (env [c_rword] (a_rtake a b)) Tryz.f134 [.bs 0 0 a.length, .bs 1 0 b.length] [.arr .u32 a, .arr .u32 b] [.arr .u32 (digs a.length (wv a - wv b)), .arr .u32 b] := by kernel_rfl
theorem wv_decide2 {a b : List Int} {k : Nat} (ha : Wd a) (hb : Wd b) (hd : wv (a.drop (k + 1)) = wv (b.drop (k + 1))) (h : a.getD k 0 < b.getD k 0) : wv a < wv b := by
 have h1 := wv_take_drop a k
 have h2 := wv_take_drop b k
 rw [getD_drop_wv] at h1 h2
 rw [hd] at h1
 have h3 := wv_take_lt ha k
 have h4 := wv_take_lt hb k
 have hp := pow_pos32 k
 have h6 : (4294967296 : Int) ^ k * (a.getD k 0 + 4294967296 * wv (b.drop (k + 1)) + 1) ≤ 4294967296 ^ k * (b.getD k 0 + 4294967296 * wv (b.drop (k + 1))) := Int.mul_le_mul_of_nonneg_left (by omega) (by omega)
 rw [Int.mul_add _ _ 1] at h6
 omega
theorem p_rreach : Good Tryz.f133 s_rreach := by
 intro ms p r h hp
 unfold s_rreach at h
 split at h
 ·rename_i a b
  simp only [Option.some.injEq, Prod.mk.injEq] at h
  obtain ⟨rfl, rfl⟩ := h
  obtain ⟨ha, hb, la, lb⟩ : Wd a ∧ Wd b ∧ a.length ≤ 1000000000 ∧ b.length ≤ 1000000000 := hp
  refine ⟨env [c_rword] (a_rreach a b), ?_⟩
  rw [← vc_rreach a b]
  have hm : maxI (a.length : Int) (b.length : Int) = ((max a.length b.length : Nat) : Int) := by unfold maxI; split <;> omega
  rw [hm]
  refine ⟨⟨max a.length b.length, ⟨Nat.le_refl _, by rw [List.drop_of_length_le (by omega), List.drop_of_length_le (by omega)]⟩, ⟨rfl, rfl, i64w (by omega) (by omega), True.intro⟩, True.intro⟩, fun i ⟨hi, hd⟩ => ?_⟩
  rw [Bool.cond_decide]
  split
  ·rename_i h0
   obtain ⟨k, rfl⟩ : ∃ k, i = k + 1 := ⟨i - 1, by omega⟩
   have e1 : (((k + 1 : Nat) : Int) - 1) = (k : Int) := by omega
   simp only [e1, wdg_nat]
   refine ⟨ha, hb, ?_⟩
   cases hc : (a.getD k 0 != b.getD k 0) with
   | true =>
    rw [cond_true]
    have hne : a.getD k 0 ≠ b.getD k 0 := by simpa using hc
    refine ⟨ha, hb, decide_eq_decide.2 ⟨fun h => ?_, fun h => ?_⟩⟩
    ·have := wv_decide2 hb ha hd.symm h; omega
    ·rcases Int.lt_or_gt_of_ne hne with q | q
     ·have := wv_decide2 ha hb hd q; omega
     ·exact q
   | false =>
    rw [cond_false]
    have he : a.getD k 0 = b.getD k 0 := by simpa using hc
    exact ⟨k, ⟨by omega, by rw [getD_drop_wv (a := a) k, getD_drop_wv (a := b) k, he, hd]⟩, ⟨⟨(by and_intros <;> first | exact True.intro | rfl | omega), (by and_intros <;> first | exact True.intro | rfl | omega), i64w (by omega) (by omega), True.intro⟩, True.intro⟩, Nat.lt_succ_self k⟩
  ·have : i = 0 := by omega
   subst this
   rw [List.drop_zero, List.drop_zero] at hd
   exact (decide_eq_true (by omega)).symm
 ·simp at h
def c_rreach : Ctr Tryz.prog := ⟨133, s_rreach, fun args w => Tryz.call133 args w, fn_ok mix Tryz.func133 s_rreach p_rreach⟩
theorem RlI.step {l : List Int} {n : Nat} {s : DwS} (h : RlI l n s) (hl : Wd l) (hk : s.k ≤ l.length) :
  ShlW (l.getD s.k 0) (wdg l ((s.k : Int) - 1) * 2 ^ (n % 32) / 4294967296) (n % 32) ∧ ShlW (wdg l ((s.k : Int) - 1)) 0 (n % 32) ∧
  RlI l n ⟨s.k + 1, s.out ++ [l.getD s.k 0 * 2 ^ (n % 32) % 4294967296 + wdg l ((s.k : Int) - 1) * 2 ^ (n % 32) / 4294967296], s.c⟩ := by
 have hc : n % 32 < 32 := Nat.mod_lt _ (by omega)
 have hp : (0 : Int) < 2 ^ (n % 32) := Int.pow_pos (by omega)
 have W0 := shl_word (x := wdg l ((s.k : Int) - 1)) (o := 0) hc (wdg_wd hl _) ⟨Int.le_refl _, hp⟩
 have W1 := shl_word (x := l.getD s.k 0) (o := wdg l ((s.k : Int) - 1) * 2 ^ (n % 32) / 4294967296) hc (hl.getD _) ⟨W0.q0, W0.q1⟩
 refine ⟨W1, W0, by show s.k + 1 ≤ _; omega, by simp [h.len]; omega, h.wd.append (Wd.one ⟨by have := W1.a0; have := W0.q0; omega, W1.a1⟩), ?_⟩
 show wv (s.out ++ [_]) + 4294967296 ^ (n / 32 + (s.k + 1)) * (wdg l (((s.k + 1 : Nat) : Int) - 1) * 2 ^ (n % 32) / 4294967296) = wv (l.take (s.k + 1)) * 2 ^ n
 have e1 : (((s.k + 1 : Nat) : Int) - 1) = (s.k : Int) := by omega
 rw [e1, wdg_nat, wv_append, wv_one, h.len, wv_take_succ, Int.add_mul, ← h.sum, show n / 32 + (s.k + 1) = n / 32 + s.k + 1 by omega, Int.pow_succ]
 have h5 := carry_step (4294967296 ^ (n / 32 + s.k)) (l.getD s.k 0 * 2 ^ (n % 32))
 have h6 : (4294967296 : Int) ^ s.k * l.getD s.k 0 * 2 ^ n = 4294967296 ^ (n / 32 + s.k) * (l.getD s.k 0 * 2 ^ (n % 32)) := by
  have e : (2 : Int) ^ n = 4294967296 ^ (n / 32) * 2 ^ (n % 32) := by
   rw [show (4294967296 : Int) = 2 ^ 32 from rfl, ← Int.pow_mul, ← Int.pow_add]; congr 1; omega
  rw [e, Int.pow_add]; grind
 rw [h6, h5, Int.mul_add]
 omega
theorem p_rleft : ∀ ms p l, s_rleft ms = some (p, l) → p.holds → ∃ E : Env Tryz.prog, evNFn E Tryz.f117 ms l := by
 intro ms p r h hp
 unfold s_rleft at h
 split at h
 ·rename_i l n0
  simp only [Option.some.injEq, Prod.mk.injEq] at h
  obtain ⟨rfl, rfl⟩ := h
  obtain ⟨hl, hn0, hn, ll⟩ : Wd l ∧ 0 ≤ n0 ∧ n0 ≤ 1000000000 ∧ l.length ≤ 1000000000 := hp
  obtain ⟨n, rfl⟩ := Int.eq_ofNat_of_zero_le hn0
  have hn : n ≤ 1000000000 := by omega
  have hc : n % 32 < 32 := Nat.mod_lt n (by omega)
  refine ⟨env [c_rword] (a_rleft l n), ?_⟩
  rw [show ((n : Int)).toNat = n from rfl, ← vc_rleft l n]
  have em : IntKind.i64.wrap (Int.tdiv (n : Int) 32) = ((n / 32 : Nat) : Int) := by
   have e : Int.tdiv (n : Int) 32 = ((n / 32 : Nat) : Int) := rfl
   rw [e, i64w (by omega) (by omega)]
  have er : IntKind.u64.wrap (Int.tmod (n : Int) 32) = ((n % 32 : Nat) : Int) := by
   have e : Int.tmod (n : Int) 32 = ((n % 32 : Nat) : Int) := rfl
   rw [e, eu64 (by omega)]
  simp only [em, er, Int.toNat_natCast, pmin2 hc, p32, digs_len, ones, news1]
  refine ⟨fun e => by omega, (by and_intros <;> first | exact True.intro | rfl | omega), fun e => by omega, ⟨⟨0, List.replicate (n / 32) 0, 0⟩, ⟨Nat.zero_le _, by simp, Wd.replicate _, ?_⟩, (by and_intros <;> first | exact True.intro | rfl | omega)⟩, ?_⟩
  ·show wv (List.replicate _ 0) + _ * (wdg l (((0 : Nat) : Int) - 1) * _ / _) = wv (l.take 0) * _
   have : wdg l (((0 : Nat) : Int) - 1) = 0 := rfl
   rw [wv_replicate, this]; simp [wv]
  ·rintro ⟨k, out, c⟩ hI
   have hk : k ≤ l.length + 1 := hI.hk
   have hlen : out.length = n / 32 + k := hI.len
   have e1 : IntKind.i64.wrap ((k : Int) + 1) = ((k + 1 : Nat) : Int) := by rw [i64w (by omega) (by omega)]; omega
   have e2 : IntKind.i64.wrap ((k : Int) - 1) = (k : Int) - 1 := i64w (by omega) (by omega)
   have e6 : List.take (n / 32 + k) out = out := List.take_of_length_le (by omega)
   simp only [e1, e2, wdg_nat, e6]
   rw [Bool.cond_decide]
   split
   ·rename_i hlt
    obtain ⟨W1, W0, hst⟩ := hI.step hl (by show k ≤ l.length; omega)
    have W1 : ShlW (l.getD k 0) (wdg l ((k : Int) - 1) * 2 ^ (n % 32) / 4294967296) (n % 32) := W1
    have W0 : ShlW (wdg l ((k : Int) - 1)) 0 (n % 32) := W0
    have x1 : IntKind.u64.wrap (l.getD k 0 * 2 ^ (n % 32)) = l.getD k 0 * 2 ^ (n % 32) := eu64 ⟨W1.t0, W1.t1⟩
    have x2 : IntKind.u64.wrap (wdg l ((k : Int) - 1) * 2 ^ (n % 32)) = wdg l ((k : Int) - 1) * 2 ^ (n % 32) := eu64 ⟨W0.t0, W0.t1⟩
    have x3 : Int.fdiv (wdg l ((k : Int) - 1) * 2 ^ (n % 32)) 4294967296 = wdg l ((k : Int) - 1) * 2 ^ (n % 32) / 4294967296 := Int.fdiv_eq_ediv_of_nonneg _ (by omega)
    have hP : ((2 ^ (n % 32) : Nat) : Int) = (2 : Int) ^ (n % 32) := cast_pow2 _
    have hlk := hl.getD k
    have hdv : (l.getD k 0 * 2 ^ (n % 32)).toNat % 2 ^ (n % 32) = 0 := by
     obtain ⟨y, hy⟩ := Int.eq_ofNat_of_zero_le hlk.1
     rw [hy, ← hP, ← Int.natCast_mul, Int.toNat_natCast, Nat.mul_mod_left]
    have q0 := W0.q0
    have q1 := W0.q1
    have t1 := W1.t1
    have a1 := W1.a1
    have ht64 : l.getD k 0 * 2 ^ (n % 32) + wdg l ((k : Int) - 1) * 2 ^ (n % 32) / 4294967296 < 18446744073709551616 := by
     have := W1.a1
     have := Int.mul_ediv_add_emod (l.getD k 0 * 2 ^ (n % 32)) 4294967296
     have := W1.q2
     omega
    have x4 := or64 (A := l.getD k 0 * 2 ^ (n % 32)) (y := wdg l ((k : Int) - 1) * 2 ^ (n % 32) / 4294967296) (n % 32) W1.t0 W1.t1 hdv q0 (by omega) ht64
    have x5 : IntKind.u32.wrap (l.getD k 0 * 2 ^ (n % 32) + wdg l ((k : Int) - 1) * 2 ^ (n % 32) / 4294967296) = l.getD k 0 * 2 ^ (n % 32) % 4294967296 + wdg l ((k : Int) - 1) * 2 ^ (n % 32) / 4294967296 := by
     rw [u32w]
     have := W1.a0
     omega
    simp only [x1, x2, x3, x4, x5]
    exact ⟨hl, by omega, hl, by omega, by omega, ⟨by simp, by omega, by omega⟩, _, hst, (by and_intros <;> first | exact True.intro | rfl | omega), by show l.length + 1 - (k + 1) < l.length + 1 - k; omega⟩
   ·rename_i hge
    have hE : k = l.length + 1 := by omega
    have hs : wv out + 4294967296 ^ (n / 32 + k) * (wdg l ((k : Int) - 1) * 2 ^ (n % 32) / 4294967296) = wv (l.take k) * 2 ^ n := hI.sum
    have hz : wdg l ((k : Int) - 1) = 0 := by
     rw [hE, show (((l.length + 1 : Nat) : Int) - 1) = ((l.length : Nat) : Int) by omega, wdg_nat]; simp
    rw [hz, Int.zero_mul, Int.zero_ediv, Int.mul_zero, Int.add_zero, wv_take_all (by omega)] at hs
    have hd := digs_wv (l := out) hI.wd
    rw [hs, hlen, hE] at hd
    exact ⟨(by and_intros <;> first | exact True.intro | rfl | omega), by omega, by omega, by rw [← hd]; rfl⟩
 ·simp at h
def n_rleft : Mu Tryz.prog := .nw ⟨117, s_rleft, fun args w => Tryz.call117 args w, evNFn_ok mix Tryz.func117 s_rleft p_rleft⟩
theorem wdg_take {l : List Int} {n : Nat} (h : l.length ≤ n) (i : Int) : wdg (List.take n (List.drop 0 l)) i = wdg l i := by
 rw [List.drop_zero, List.take_of_length_le h]
theorem p_rhalf : ∀ ms bcs p bcs', s_rhalf ms bcs = some (p, bcs') → p.holds → bcs'.length = bcs.length ∧ ∃ E : Env Tryz.prog, evMFn E Tryz.f135 ms bcs bcs' := by
 intro ms bcs p r h hp
 unfold s_rhalf at h
 split at h
 ·rename_i n l
  simp only [Option.some.injEq, Prod.mk.injEq] at h
  obtain ⟨rfl, rfl⟩ := h
  obtain ⟨hl, rfl, ll⟩ : Wd l ∧ n = l.length ∧ n ≤ 1000000000 := hp
  refine ⟨rfl, env [c_rword] (a_rhalf l), ?_⟩
  rw [← vc_rhalf l]
  refine ⟨⟨⟨0, l, 0⟩, ⟨⟨Nat.zero_le _, rfl, hl, by simp [wv, Int.emod_one]⟩, rfl⟩, (by and_intros <;> first | exact True.intro | rfl | omega)⟩, ?_⟩
  rintro ⟨k, out, c⟩ ⟨hI, hrest⟩
  have hk : k ≤ l.length := hI.hk
  have hlen : out.length = l.length := hI.len
  have hw : Wd out := hI.wd
  have hrest : out.drop k = l.drop k := hrest
  have e1 : IntKind.i64.wrap ((k : Int) + 1) = ((k + 1 : Nat) : Int) := by rw [i64w (by omega) (by omega)]; omega
  have hx := hw.getD k
  have hy := hw.getD (k + 1)
  have p1 : ((2 : Int) ^ min (Int.toNat 1) (IntKind.bits IntKind.u64)) = 2 := by decide +kernel
  have p31' : ((2 : Int) ^ min (Int.toNat 31) (IntKind.bits IntKind.u64)) = 2147483648 := by decide +kernel
  have e3 : Int.fdiv (out.getD k 0) 2 = out.getD k 0 / 2 := Int.fdiv_eq_ediv_of_nonneg _ (by omega)
  have e4 : IntKind.u64.wrap (out.getD (k + 1) 0 * 2147483648) = out.getD (k + 1) 0 * 2147483648 := eu64 (by omega)
  have e5 : IntKind.u64.wrap (↑(BitVec.ofInt (IntKind.bits IntKind.u64) (out.getD k 0 / 2) ||| BitVec.ofInt (IntKind.bits IntKind.u64) (out.getD (k + 1) 0 * 2147483648)).toNat) = out.getD (k + 1) 0 * 2147483648 + out.getD k 0 / 2 := by
   rw [BitVec.or_comm]
   exact or64 31 (by omega) (by omega) (by omega) (by omega) (by omega) (by omega)
  simp only [e1, wdg_take (show out.length ≤ l.length by omega), wdg_nat, p1, p31', e3, e4, e5, u32w (out.getD (k + 1) 0 * 2147483648 + out.getD k 0 / 2), Bool.cond_decide, Int.toNat_natCast, Nat.zero_add]
  split
  ·rename_i hlt
   have hlt : k < l.length := by omega
   have g0 : out.getD k 0 = l.getD k 0 := getD_of_drop hrest k (Nat.le_refl _)
   have g1 : out.getD (k + 1) 0 = l.getD (k + 1) 0 := getD_of_drop hrest (k + 1) (by omega)
   have hst := hI.step hl (by omega) hlt ((out.getD (k + 1) 0 * 2147483648 + out.getD k 0 / 2) % 4294967296) (by
    show _ = (l.getD k 0 + 4294967296 * l.getD (k + 1) 0) / 2 ^ 1 % 4294967296
    rw [g0, g1]
    have : (2 : Int) ^ 1 = 2 := rfl
    rw [this]; omega)
   exact ⟨⟨by omega, fun x hx => (hw.drop 0).take _ x hx⟩, by omega, ⟨by omega, fun x hx => (hw.drop 0).take _ x hx⟩, by omega, (by and_intros <;> first | exact True.intro | rfl | omega), by omega, _, ⟨hst, by show (out.set k _).drop (k + 1) = l.drop (k + 1); rw [drop_set]; exact drop_of_drop hrest⟩, (by and_intros <;> first | exact True.intro | rfl | omega), by show l.length - (k + 1) < l.length - k; omega⟩
  ·rename_i hge
   have hE : k = l.length := by omega
   have hs : wv (out.take k) = wv l / 2 ^ 1 % 4294967296 ^ k := hI.sum
   rw [hE, wv_take_all (by omega)] at hs
   have h0 := wv_nonneg hl
   have h1 := wv_lt hl
   have h2 : (2 : Int) ^ 1 = 2 := rfl
   rw [h2, Int.emod_eq_of_lt (by omega) (by omega)] at hs
   have hd := digs_wv hw
   rw [hs, hlen] at hd
   exact ⟨hd.symm, True.intro⟩
 ·simp at h
def n_rhalf : Mu Tryz.prog := .wr ⟨135, s_rhalf, fun args w => Tryz.call135 args w, fn_mok mix Tryz.func135 s_rhalf p_rhalf⟩
theorem p_rtake : ∀ ms bcs p bcs', s_rtake ms bcs = some (p, bcs') → p.holds → bcs'.length = bcs.length ∧ ∃ E : Env Tryz.prog, evMFn E Tryz.f134 ms bcs bcs' := by
 intro ms bcs p r h hp
 unfold s_rtake at h
 split at h
 ·rename_i n m a b
  simp only [Option.some.injEq, Prod.mk.injEq] at h
  obtain ⟨rfl, rfl⟩ := h
  obtain ⟨ha, hb, rfl, rfl, la, hle⟩ : Wd a ∧ Wd b ∧ n = a.length ∧ m = b.length ∧ n ≤ 1000000000 ∧ wv b ≤ wv a := hp
  refine ⟨rfl, env [c_rword] (a_rtake a b), ?_⟩
  rw [← vc_rtake a b]
  refine ⟨⟨⟨a, b, 0, a, 0⟩, ⟨Nat.zero_le _, rfl, ha, ⟨Int.le_refl _, by show (0 : Int) ≤ 1; omega⟩, by simp [wv], rfl⟩, (by and_intros <;> first | exact True.intro | rfl | omega)⟩, ?_⟩
  rintro ⟨x0, y0, k, out, c⟩ hI
  have hk : k ≤ a.length := hI.hi
  have hlen : out.length = a.length := hI.len
  have hw : Wd out := hI.wd
  have hc : 0 ≤ c ∧ c ≤ 1 := hI.c0
  have e1 : IntKind.i64.wrap ((k : Int) + 1) = ((k + 1 : Nat) : Int) := by rw [i64w (by omega) (by omega)]; omega
  have hx := hw.getD k
  have hy := hb.getD k
  have f1 : IntKind.u64.wrap (out.getD k 0) = out.getD k 0 := eu64 (by omega)
  have f2 : IntKind.u64.wrap (4294967296 + out.getD k 0) = 4294967296 + out.getD k 0 := eu64 (by omega)
  have f3 : IntKind.u64.wrap (4294967296 + out.getD k 0 - b.getD k 0) = 4294967296 + out.getD k 0 - b.getD k 0 := eu64 (by omega)
  have f4 : IntKind.u64.wrap (4294967296 + out.getD k 0 - b.getD k 0 - c) = 4294967296 + out.getD k 0 - b.getD k 0 - c := eu64 (by omega)
  have f5 : Int.fdiv (4294967296 + out.getD k 0 - b.getD k 0 - c) 4294967296 = (4294967296 + out.getD k 0 - b.getD k 0 - c) / 4294967296 := Int.fdiv_eq_ediv_of_nonneg _ (by omega)
  have f6 : IntKind.u64.wrap (1 - (4294967296 + out.getD k 0 - b.getD k 0 - c) / 4294967296) = if out.getD k 0 < b.getD k 0 + c then 1 else 0 := by
   rw [eu64 (by omega)]; split <;> omega
  have f7 : (4294967296 + out.getD k 0 - b.getD k 0 - c) % 4294967296 = (out.getD k 0 - b.getD k 0 - c) % 4294967296 := by omega
  simp only [e1, wdg_take (Nat.le_refl b.length), wdg_nat, p32, f1, f2, f3, f4, f5, f6, u32w (4294967296 + out.getD k 0 - b.getD k 0 - c), f7, Bool.cond_decide, Int.toNat_natCast, Nat.zero_add]
  split
  ·rename_i hlt
   have hlt : k < a.length := by omega
   have hst := hI.step hb hlt (b.getD k 0) rfl
   exact ⟨(by and_intros <;> first | exact True.intro | rfl | omega), by omega, ⟨(by and_intros <;> first | exact True.intro | rfl | omega), fun x hx => (hb.drop 0).take _ x hx⟩, (by and_intros <;> first | exact True.intro | rfl | omega), by omega, by omega, _, hst, (by and_intros <;> first | exact True.intro | rfl | omega), by show a.length - (k + 1) < a.length - k; omega⟩
  ·rename_i hge
   have hlb : wv b < 4294967296 ^ a.length := by have := wv_lt ha; omega
   have hf : wv out = wv a - wv b := by
    have h1 : wv (out.take k) - 4294967296 ^ k * c = wv (a.take k) - wv (b.take k) := hI.sum
    have e : k = a.length := by omega
    rw [e, wv_take_all (by omega), wv_take_all (by omega)] at h1
    have h3 := wv_take_drop b a.length
    have h4 := wv_take_lt hb a.length
    have h5 := wv_nonneg (hb.drop a.length)
    have h6 := pow_pos32 a.length
    have hz : wv (b.drop a.length) = 0 := by
     rcases Int.lt_or_le 0 (wv (b.drop a.length)) with q | q
     ·have : (4294967296 : Int) ^ a.length * 1 ≤ 4294967296 ^ a.length * wv (b.drop a.length) := Int.mul_le_mul_of_nonneg_left (by omega) (by omega)
      omega
     ·omega
    rw [hz, Int.mul_zero, Int.add_zero] at h3
    have h2 := wv_lt hw
    rw [hlen] at h2
    have hc0 : c = 0 := by
     rcases (show c = 0 ∨ c = 1 by omega) with q | q
     ·exact q
     ·rw [q, Int.mul_one] at h1; omega
    rw [hc0, Int.mul_zero] at h1
    omega
   have hd := digs_wv hw
   rw [hf, hlen] at hd
   exact ⟨hd.symm, (by and_intros <;> first | exact True.intro | rfl | omega)⟩
 ·simp at h
def n_rtake : Mu Tryz.prog := .wr ⟨134, s_rtake, fun args w => Tryz.call134 args w, fn_mok mix Tryz.func134 s_rtake p_rtake⟩
end Go.Proofs.YtnfmjlhkknndhaaGreat
/-
 Contracts of functions: the reference of layer 1: division of sizes.
-/
namespace Go.Proofs.YtnfmjlhkknndhaaGreat
open Go Go.RowKit
def Ctr.adapt {P : Program} (c : Ctr P) (spec : FSpec) (h : ∀ ms p r, spec ms = some (p, r) → p.holds → ∃ ms' p', leV.leVs 0 ms ms' ∧ c.spec ms' = some (p', r) ∧ p'.holds) : Ctr P :=
 ⟨c.f, spec, c.call, fun S w ms args p r hs hp hS hG ha => by
  obtain ⟨ms', p', h1, h2, h3⟩ := h ms p r hs hp
  have k : Cuts 0 (Ctx.args S) (Ctx.args S) := ⟨fun _ h => h, fun _ h => h, fun i hi => by omega⟩
  exact c.ok S w ms' args p' r h2 h3 hS hG (leVs_all k ms ms' _ h1 ha)⟩
def s_rbits2 : FSpec
 | [.st [.bool false, .ws l]] => some (some (Cn l ∧ l.length ≤ 31000), .ret (.int .i64 (bl (wv l).toNat)))
 | _ => none
theorem bl_words2 {l : List Int} {k : Nat} (hl : Wd l) (h : 32 * l.length ≤ k) : bl (wv l).toNat ≤ k := bl_le_of (by
 have h1 := wv_lt hl
 have h2 : (4294967296 : Nat) ^ l.length ≤ 2 ^ k := by rw [pow_words]; exact Nat.pow_le_pow_right (by omega) h
 have h3 := cast_pow32 l.length
 have h4 := Nat.two_pow_pos k
 generalize (2 : Nat) ^ k = X at *
 omega)
theorem w_rbits2 : ∀ ms p r, s_rbits2 ms = some (p, r) → p.holds → ∃ ms' p', leV.leVs 0 ms ms' ∧ c_rbits.spec ms' = some (p', r) ∧ p'.holds := by
 intro ms p r h hp
 unfold s_rbits2 at h
 split at h
 ·rename_i l
  simp only [Option.some.injEq, Prod.mk.injEq] at h
  obtain ⟨rfl, rfl⟩ := h
  obtain ⟨h1, h2⟩ : Cn l ∧ l.length ≤ 31000 := hp
  have h0 := h1.pos
  have e : (wv l).natAbs = (wv l).toNat := by omega
  refine ⟨[.big (wv l) (32 * l.length)], some (32 * l.length ≤ 1000000), ⟨⟨?_, ?_, len_of_wv h1.wd⟩, True.intro⟩, ?_, by show 32 * l.length ≤ 1000000; omega⟩
  ·exact (decide_eq_false (show ¬ wv l < 0 by omega)).symm
  ·rw [e]; exact h1.symm
  ·show s_bits [.big (wv l) (32 * l.length)] = _
   simp only [s_bits, e]
 ·simp at h
def c_rbits2 : Ctr Tryz.prog := c_rbits.adapt s_rbits2 w_rbits2
def smallL (a b : List Int) : Bool := decide (a.length ≤ 2) && decide (b.length ≤ 2)
def divQ (a b : List Int) : List Int := cond (smallL a b) (digs 2 (wv a / wv b)) (cond (decide (bl (wv a).toNat < bl (wv b).toNat)) [] (digs ((bl (wv a).toNat - bl (wv b).toNat) / 32 + 1) (wv a / wv b)))
def divR (a b : List Int) : List Int := cond (smallL a b) (digs 2 (wv a % wv b)) (cond (decide (bl (wv a).toNat < bl (wv b).toNat)) a (digs a.length (wv a % wv b)))
structure RdS where
 k : Nat
 r : List Int
 q : List Int
 d : List Int
structure RdI (a b : List Int) (n : Nat) (s : RdS) : Prop where
 hk : s.k ≤ n + 1
 lr : s.r.length = a.length
 lq : s.q.length = n / 32 + 1
 ld : s.d.length = n / 32 + b.length + 1
 wr : Wd s.r
 wq : Wd s.q
 wd : Wd s.d
 dv : wv s.d = wv b * 2 ^ s.k / 2
 sum : wv a = wv s.q * wv b + wv s.r
 lt : wv s.r < wv b * 2 ^ s.k
 qz : (2 ^ s.k : Int) ∣ wv s.q
def a_rdivide (a b : List Int) (n : Nat) : Nat → MS → Option LoopAnn
 | 12, _ => some (.inv RdS (RdI a b n) (fun s => ⟨101, [(4, .bp 0 0), (7, .bs 1 0 a.length), (9, .bs 2 0 (n / 32 + 1)), (10, .bs 3 0 (n / 32 + b.length + 1)), (11, .int .i64 ((s.k : Int) - 1))],
   [⟨false, .one (.st [.val (.slice none 0 0), .val (.slice none 0 0)])⟩, ⟨false, .arr .u32 s.r⟩, ⟨false, .arr .u32 s.q⟩, ⟨false, .arr .u32 s.d⟩], 0⟩) (fun s => s.k))
 | _, _ => none
def k_rdivide (a b : List Int) : Nat → MS → Option CutAnn
 | 5, _ => some (.mk Unit (fun u => u = () ∧ smallL a b = false) (fun _ => ⟨101, [(0, .ws a), (1, .ws b), (4, .bp 0 0)], [⟨false, .one (.st [.val (.slice none 0 0), .val (.slice none 0 0)])⟩], 0⟩))
 | _, _ => none
def envM (Γ : List (Ctr Tryz.prog)) (Δ : List (Mu Tryz.prog)) (ann : Nat → MS → Option LoopAnn) (cut : Nat → MS → Option CutAnn) : Env Tryz.prog := ⟨Γ, Δ, 37, ann, fun _ => [], cut⟩
def s_rdivide : FSpec
 | [.ws a, .ws b] => some (some (Cn a ∧ Cn b ∧ b ≠ [] ∧ a.length ≤ 31000 ∧ b.length ≤ 31000), .ret (.st [.ws (divQ a b), .ws (divR a b)]))
 | _ => none
theorem vc_rdivide (a b : List Int) (n : Nat) : ((bif decide ((↑(List.length a) : Int) ≤ 2) then bif decide ((↑(List.length b) : Int) ≤ 2) then (∀ (x : Int), x ∈ a → (0 : Int) ≤ x ∧ x < 4294967296) ∧ (∀ (x : Int), x ∈ a → (0 : Int) ≤ x ∧ x < 4294967296) ∧ (0 : Int) ≤ 32 ∧ (∀ (x : Int), x ∈ b → (0 : Int) ≤ x ∧ x < 4294967296) ∧ (∀ (x : Int), x ∈ b → (0 : Int) ≤ x ∧ x < 4294967296) ∧ (0 : Int) ≤ 32 ∧ (IntKind.wrap IntKind.u64 (↑(BitVec.toNat (BitVec.ofInt (IntKind.bits IntKind.u64) (wdg b (0 : Int)) ||| BitVec.ofInt (IntKind.bits IntKind.u64) (IntKind.wrap IntKind.u64 (wdg b (1 : Int) * 2 ^ min (Int.toNat (32 : Int)) (IntKind.bits IntKind.u64))))) : Int) = 0 → False) ∧ (IntKind.wrap IntKind.u64 (↑(BitVec.toNat (BitVec.ofInt (IntKind.bits IntKind.u64) (wdg b (0 : Int)) ||| BitVec.ofInt (IntKind.bits IntKind.u64) (IntKind.wrap IntKind.u64 (wdg b (1 : Int) * 2 ^ min (Int.toNat (32 : Int)) (IntKind.bits IntKind.u64))))) : Int) = 0 → False) ∧ (0 : Int) ≤ 32 ∧ (IntKind.wrap IntKind.u64 (↑(BitVec.toNat (BitVec.ofInt (IntKind.bits IntKind.u64) (wdg b (0 : Int)) ||| BitVec.ofInt (IntKind.bits IntKind.u64) (IntKind.wrap IntKind.u64 (wdg b (1 : Int) * 2 ^ min (Int.toNat (32 : Int)) (IntKind.bits IntKind.u64))))) : Int) = 0 → False) ∧ (IntKind.wrap IntKind.u64 (↑(BitVec.toNat (BitVec.ofInt (IntKind.bits IntKind.u64) (wdg b (0 : Int)) ||| BitVec.ofInt (IntKind.bits IntKind.u64) (IntKind.wrap IntKind.u64 (wdg b (1 : Int) * 2 ^ min (Int.toNat (32 : Int)) (IntKind.bits IntKind.u64))))) : Int) = 0 → False) ∧ (0 : Int) ≤ 32 ∧ ((0 : Nat) + 2 ≤ List.length [IntKind.wrap IntKind.u32 (IntKind.wrap IntKind.u64 (Int.tdiv (IntKind.wrap IntKind.u64 (↑(BitVec.toNat (BitVec.ofInt (IntKind.bits IntKind.u64) (wdg a (0 : Int)) ||| BitVec.ofInt (IntKind.bits IntKind.u64) (IntKind.wrap IntKind.u64 (wdg a (1 : Int) * 2 ^ min (Int.toNat (32 : Int)) (IntKind.bits IntKind.u64))))) : Int)) (IntKind.wrap IntKind.u64 (↑(BitVec.toNat (BitVec.ofInt (IntKind.bits IntKind.u64) (wdg b (0 : Int)) ||| BitVec.ofInt (IntKind.bits IntKind.u64) (IntKind.wrap IntKind.u64 (wdg b (1 : Int) * 2 ^ min (Int.toNat (32 : Int)) (IntKind.bits IntKind.u64))))) : Int)))), IntKind.wrap IntKind.u32 (Int.fdiv (IntKind.wrap IntKind.u64 (Int.tdiv (IntKind.wrap IntKind.u64 (↑(BitVec.toNat (BitVec.ofInt (IntKind.bits IntKind.u64) (wdg a (0 : Int)) ||| BitVec.ofInt (IntKind.bits IntKind.u64) (IntKind.wrap IntKind.u64 (wdg a (1 : Int) * 2 ^ min (Int.toNat (32 : Int)) (IntKind.bits IntKind.u64))))) : Int)) (IntKind.wrap IntKind.u64 (↑(BitVec.toNat (BitVec.ofInt (IntKind.bits IntKind.u64) (wdg b (0 : Int)) ||| BitVec.ofInt (IntKind.bits IntKind.u64) (IntKind.wrap IntKind.u64 (wdg b (1 : Int) * 2 ^ min (Int.toNat (32 : Int)) (IntKind.bits IntKind.u64))))) : Int)))) ((2 : Int) ^ min (Int.toNat (32 : Int)) (IntKind.bits IntKind.u64)))] ∧ (0 : Nat) + 2 ≤ List.length [IntKind.wrap IntKind.u32 (Int.tmod (IntKind.wrap IntKind.u64 (↑(BitVec.toNat (BitVec.ofInt (IntKind.bits IntKind.u64) (wdg a (0 : Int)) ||| BitVec.ofInt (IntKind.bits IntKind.u64) (IntKind.wrap IntKind.u64 (wdg a (1 : Int) * 2 ^ min (Int.toNat (32 : Int)) (IntKind.bits IntKind.u64))))) : Int)) (IntKind.wrap IntKind.u64 (↑(BitVec.toNat (BitVec.ofInt (IntKind.bits IntKind.u64) (wdg b (0 : Int)) ||| BitVec.ofInt (IntKind.bits IntKind.u64) (IntKind.wrap IntKind.u64 (wdg b (1 : Int) * 2 ^ min (Int.toNat (32 : Int)) (IntKind.bits IntKind.u64))))) : Int))), IntKind.wrap IntKind.u32 (Int.fdiv (Int.tmod (IntKind.wrap IntKind.u64 (↑(BitVec.toNat (BitVec.ofInt (IntKind.bits IntKind.u64) (wdg a (0 : Int)) ||| BitVec.ofInt (IntKind.bits IntKind.u64) (IntKind.wrap IntKind.u64 (wdg a (1 : Int) * 2 ^ min (Int.toNat (32 : Int)) (IntKind.bits IntKind.u64))))) : Int)) (IntKind.wrap IntKind.u64 (↑(BitVec.toNat (BitVec.ofInt (IntKind.bits IntKind.u64) (wdg b (0 : Int)) ||| BitVec.ofInt (IntKind.bits IntKind.u64) (IntKind.wrap IntKind.u64 (wdg b (1 : Int) * 2 ^ min (Int.toNat (32 : Int)) (IntKind.bits IntKind.u64))))) : Int))) ((2 : Int) ^ min (Int.toNat (32 : Int)) (IntKind.bits IntKind.u64)))]) ∧ List.take (2 : Nat) (List.drop (0 : Nat) [IntKind.wrap IntKind.u32 (IntKind.wrap IntKind.u64 (Int.tdiv (IntKind.wrap IntKind.u64 (↑(BitVec.toNat (BitVec.ofInt (IntKind.bits IntKind.u64) (wdg a (0 : Int)) ||| BitVec.ofInt (IntKind.bits IntKind.u64) (IntKind.wrap IntKind.u64 (wdg a (1 : Int) * 2 ^ min (Int.toNat (32 : Int)) (IntKind.bits IntKind.u64))))) : Int)) (IntKind.wrap IntKind.u64 (↑(BitVec.toNat (BitVec.ofInt (IntKind.bits IntKind.u64) (wdg b (0 : Int)) ||| BitVec.ofInt (IntKind.bits IntKind.u64) (IntKind.wrap IntKind.u64 (wdg b (1 : Int) * 2 ^ min (Int.toNat (32 : Int)) (IntKind.bits IntKind.u64))))) : Int)))), IntKind.wrap IntKind.u32 (Int.fdiv (IntKind.wrap IntKind.u64 (Int.tdiv (IntKind.wrap IntKind.u64 (↑(BitVec.toNat (BitVec.ofInt (IntKind.bits IntKind.u64) (wdg a (0 : Int)) ||| BitVec.ofInt (IntKind.bits IntKind.u64) (IntKind.wrap IntKind.u64 (wdg a (1 : Int) * 2 ^ min (Int.toNat (32 : Int)) (IntKind.bits IntKind.u64))))) : Int)) (IntKind.wrap IntKind.u64 (↑(BitVec.toNat (BitVec.ofInt (IntKind.bits IntKind.u64) (wdg b (0 : Int)) ||| BitVec.ofInt (IntKind.bits IntKind.u64) (IntKind.wrap IntKind.u64 (wdg b (1 : Int) * 2 ^ min (Int.toNat (32 : Int)) (IntKind.bits IntKind.u64))))) : Int)))) ((2 : Int) ^ min (Int.toNat (32 : Int)) (IntKind.bits IntKind.u64)))]) = divQ a b ∧ List.take (2 : Nat) (List.drop (0 : Nat) [IntKind.wrap IntKind.u32 (Int.tmod (IntKind.wrap IntKind.u64 (↑(BitVec.toNat (BitVec.ofInt (IntKind.bits IntKind.u64) (wdg a (0 : Int)) ||| BitVec.ofInt (IntKind.bits IntKind.u64) (IntKind.wrap IntKind.u64 (wdg a (1 : Int) * 2 ^ min (Int.toNat (32 : Int)) (IntKind.bits IntKind.u64))))) : Int)) (IntKind.wrap IntKind.u64 (↑(BitVec.toNat (BitVec.ofInt (IntKind.bits IntKind.u64) (wdg b (0 : Int)) ||| BitVec.ofInt (IntKind.bits IntKind.u64) (IntKind.wrap IntKind.u64 (wdg b (1 : Int) * 2 ^ min (Int.toNat (32 : Int)) (IntKind.bits IntKind.u64))))) : Int))), IntKind.wrap IntKind.u32 (Int.fdiv (Int.tmod (IntKind.wrap IntKind.u64 (↑(BitVec.toNat (BitVec.ofInt (IntKind.bits IntKind.u64) (wdg a (0 : Int)) ||| BitVec.ofInt (IntKind.bits IntKind.u64) (IntKind.wrap IntKind.u64 (wdg a (1 : Int) * 2 ^ min (Int.toNat (32 : Int)) (IntKind.bits IntKind.u64))))) : Int)) (IntKind.wrap IntKind.u64 (↑(BitVec.toNat (BitVec.ofInt (IntKind.bits IntKind.u64) (wdg b (0 : Int)) ||| BitVec.ofInt (IntKind.bits IntKind.u64) (IntKind.wrap IntKind.u64 (wdg b (1 : Int) * 2 ^ min (Int.toNat (32 : Int)) (IntKind.bits IntKind.u64))))) : Int))) ((2 : Int) ^ min (Int.toNat (32 : Int)) (IntKind.bits IntKind.u64)))]) = divR a b ∧ True else ∃ i, (i = () ∧ smallL a b = false) ∧ (a = a ∧ b = b ∧ (0 : Nat) = 0 ∧ True) ∧ (Value.slice none (0 : Nat) (0 : Nat) = Value.slice none (0 : Nat) (0 : Nat) ∧ Value.slice none (0 : Nat) (0 : Nat) = Value.slice none (0 : Nat) (0 : Nat) ∧ True) ∧ True else ∃ i, (i = () ∧ smallL a b = false) ∧ (a = a ∧ b = b ∧ (0 : Nat) = 0 ∧ True) ∧ (Value.slice none (0 : Nat) (0 : Nat) = Value.slice none (0 : Nat) (0 : Nat) ∧ Value.slice none (0 : Nat) (0 : Nat) = Value.slice none (0 : Nat) (0 : Nat) ∧ True) ∧ True) ∧ ∀ (i : Unit), i = () ∧ smallL a b = false → ((0 : Nat) ≤ List.length ([] : List Int) ∧ ((0 : Nat) + News.len (News.ints IntKind.u32 a)) * 4 ≤ 140737488355328) ∧ (limbs (Int.toNat (wv a)) = a ∧ List.length a ≤ 31000) ∧ (limbs (Int.toNat (wv b)) = b ∧ List.length b ≤ 31000) ∧ bif decide (IntKind.wrap IntKind.i64 ((↑(bl (Int.toNat (wv a))) : Int) - (↑(bl (Int.toNat (wv b))) : Int)) < 0) then (0 : Nat) + ((0 : Nat) + News.len (News.ints IntKind.u32 a)) ≤ List.length (List.take (0 : Nat) [] ++ a) ∧ (Value.slice none (0 : Nat) (0 : Nat) = Value.slice none (0 : Nat) (0 : Nat) ∧ divQ a b = []) ∧ List.take ((0 : Nat) + News.len (News.ints IntKind.u32 a)) (List.drop (0 : Nat) (List.take (0 : Nat) [] ++ a)) = divR a b ∧ True else ((32 : Int) = 0 → False) ∧ ((0 : Int) ≤ IntKind.wrap IntKind.i64 (IntKind.wrap IntKind.i64 (Int.tdiv (IntKind.wrap IntKind.i64 ((↑(bl (Int.toNat (wv a))) : Int) - (↑(bl (Int.toNat (wv b))) : Int))) (32 : Int)) + 1) ∧ IntKind.wrap IntKind.i64 (IntKind.wrap IntKind.i64 (Int.tdiv (IntKind.wrap IntKind.i64 ((↑(bl (Int.toNat (wv a))) : Int) - (↑(bl (Int.toNat (wv b))) : Int))) (32 : Int)) + 1) = IntKind.wrap IntKind.i64 (IntKind.wrap IntKind.i64 (Int.tdiv (IntKind.wrap IntKind.i64 ((↑(bl (Int.toNat (wv a))) : Int) - (↑(bl (Int.toNat (wv b))) : Int))) (32 : Int)) + 1) ∧ (↑(4 : Nat) : Int) * IntKind.wrap IntKind.i64 (IntKind.wrap IntKind.i64 (Int.tdiv (IntKind.wrap IntKind.i64 ((↑(bl (Int.toNat (wv a))) : Int) - (↑(bl (Int.toNat (wv b))) : Int))) (32 : Int)) + 1) ≤ 140737488355328) ∧ ((∀ (x : Int), x ∈ b → (0 : Int) ≤ x ∧ x < 4294967296) ∧ (0 : Int) ≤ IntKind.wrap IntKind.i64 ((↑(bl (Int.toNat (wv a))) : Int) - (↑(bl (Int.toNat (wv b))) : Int)) ∧ IntKind.wrap IntKind.i64 ((↑(bl (Int.toNat (wv a))) : Int) - (↑(bl (Int.toNat (wv b))) : Int)) ≤ 1000000000 ∧ List.length b ≤ 1000000000) ∧ (∃ i, RdI a b n i ∧ ((0 : Nat) = 0 ∧ ((0 : Nat) = 0 ∧ (0 : Nat) + News.len (News.ints IntKind.u32 a) = List.length a) ∧ ((0 : Nat) = 0 ∧ Int.toNat (IntKind.wrap IntKind.i64 (IntKind.wrap IntKind.i64 (Int.tdiv (IntKind.wrap IntKind.i64 ((↑(bl (Int.toNat (wv a))) : Int) - (↑(bl (Int.toNat (wv b))) : Int))) (32 : Int)) + 1)) = n / 32 + 1) ∧ ((0 : Nat) = 0 ∧ List.length (digs (Int.toNat (IntKind.wrap IntKind.i64 ((↑(bl (Int.toNat (wv a))) : Int) - (↑(bl (Int.toNat (wv b))) : Int))) / 32 + List.length b + 1) (wv b * 2 ^ Int.toNat (IntKind.wrap IntKind.i64 ((↑(bl (Int.toNat (wv a))) : Int) - (↑(bl (Int.toNat (wv b))) : Int))))) = n / 32 + List.length b + 1) ∧ IntKind.wrap IntKind.i64 ((↑(bl (Int.toNat (wv a))) : Int) - (↑(bl (Int.toNat (wv b))) : Int)) = (↑(RdS.k i) : Int) - 1 ∧ True) ∧ (Value.slice none (0 : Nat) (0 : Nat) = Value.slice none (0 : Nat) (0 : Nat) ∧ Value.slice none (0 : Nat) (0 : Nat) = Value.slice none (0 : Nat) (0 : Nat) ∧ True) ∧ List.take (0 : Nat) [] ++ a = RdS.r i ∧ List.replicate (Int.toNat (IntKind.wrap IntKind.i64 (IntKind.wrap IntKind.i64 (Int.tdiv (IntKind.wrap IntKind.i64 ((↑(bl (Int.toNat (wv a))) : Int) - (↑(bl (Int.toNat (wv b))) : Int))) (32 : Int)) + 1))) (0 : Int) = RdS.q i ∧ digs (Int.toNat (IntKind.wrap IntKind.i64 ((↑(bl (Int.toNat (wv a))) : Int) - (↑(bl (Int.toNat (wv b))) : Int))) / 32 + List.length b + 1) (wv b * 2 ^ Int.toNat (IntKind.wrap IntKind.i64 ((↑(bl (Int.toNat (wv a))) : Int) - (↑(bl (Int.toNat (wv b))) : Int)))) = RdS.d i ∧ True) ∧ ∀ (i : RdS), RdI a b n i → bif decide ((↑(RdS.k i) : Int) - 1 ≥ 0) then (((0 : Nat) + List.length a ≤ List.length (RdS.r i) ∧ (0 : Nat) + (n / 32 + List.length b + 1) ≤ List.length (RdS.d i)) ∧ (∀ (x : Int), x ∈ List.take (List.length a) (List.drop (0 : Nat) (RdS.r i)) → (0 : Int) ≤ x ∧ x < 4294967296) ∧ (∀ (x : Int), x ∈ List.take (n / 32 + List.length b + 1) (List.drop (0 : Nat) (RdS.d i)) → (0 : Int) ≤ x ∧ x < 4294967296) ∧ List.length (List.take (List.length a) (List.drop (0 : Nat) (RdS.r i))) ≤ 1000000000 ∧ List.length (List.take (n / 32 + List.length b + 1) (List.drop (0 : Nat) (RdS.d i))) ≤ 1000000000) ∧ bif decide (wv (List.take (n / 32 + List.length b + 1) (List.drop (0 : Nat) (RdS.d i))) ≤ wv (List.take (List.length a) (List.drop (0 : Nat) (RdS.r i)))) then ((∀ (x : Int), x ∈ RdS.r i → (0 : Int) ≤ x ∧ x < 4294967296) ∧ (∀ (x : Int), x ∈ RdS.d i → (0 : Int) ≤ x ∧ x < 4294967296) ∧ List.length a = List.length (RdS.r i) ∧ n / 32 + List.length b + 1 = List.length (RdS.d i) ∧ List.length a ≤ 1000000000 ∧ wv (RdS.d i) ≤ wv (RdS.r i)) ∧ ((32 : Int) = 0 → False) ∧ ((0 : Int) ≤ IntKind.wrap IntKind.i64 (Int.tdiv ((↑(RdS.k i) : Int) - 1) (32 : Int)) ∧ IntKind.wrap IntKind.i64 (Int.tdiv ((↑(RdS.k i) : Int) - 1) (32 : Int)) < (↑(n / 32 + 1) : Int)) ∧ (0 : Nat) + Int.toNat (IntKind.wrap IntKind.i64 (Int.tdiv ((↑(RdS.k i) : Int) - 1) (32 : Int))) < List.length (RdS.q i) ∧ ((32 : Int) = 0 → False) ∧ (0 : Int) ≤ IntKind.wrap IntKind.u64 (Int.tmod ((↑(RdS.k i) : Int) - 1) (32 : Int)) ∧ ((0 : Int) ≤ IntKind.wrap IntKind.i64 (Int.tdiv ((↑(RdS.k i) : Int) - 1) (32 : Int)) ∧ IntKind.wrap IntKind.i64 (Int.tdiv ((↑(RdS.k i) : Int) - 1) (32 : Int)) < (↑(n / 32 + 1) : Int)) ∧ (0 : Nat) + Int.toNat (IntKind.wrap IntKind.i64 (Int.tdiv ((↑(RdS.k i) : Int) - 1) (32 : Int))) < List.length (RdS.q i) ∧ ((∀ (x : Int), x ∈ RdS.d i → (0 : Int) ≤ x ∧ x < 4294967296) ∧ n / 32 + List.length b + 1 = List.length (RdS.d i) ∧ n / 32 + List.length b + 1 ≤ 1000000000) ∧ ∃ j, RdI a b n j ∧ (((0 : Nat) = 0 ∧ ((0 : Nat) = 0 ∧ List.length a = List.length a) ∧ ((0 : Nat) = 0 ∧ n / 32 + 1 = n / 32 + 1) ∧ ((0 : Nat) = 0 ∧ n / 32 + List.length b + 1 = n / 32 + List.length b + 1) ∧ IntKind.wrap IntKind.i64 ((↑(RdS.k i) : Int) - 1 - 1) = (↑(RdS.k j) : Int) - 1 ∧ True) ∧ (Value.slice none (0 : Nat) (0 : Nat) = Value.slice none (0 : Nat) (0 : Nat) ∧ Value.slice none (0 : Nat) (0 : Nat) = Value.slice none (0 : Nat) (0 : Nat) ∧ True) ∧ digs (List.length (RdS.r i)) (wv (RdS.r i) - wv (RdS.d i)) = RdS.r j ∧ List.set (RdS.q i) ((0 : Nat) + Int.toNat (IntKind.wrap IntKind.i64 (Int.tdiv ((↑(RdS.k i) : Int) - 1) (32 : Int)))) (IntKind.wrap IntKind.u32 (↑(BitVec.toNat (BitVec.ofInt (IntKind.bits IntKind.u32) (List.getD (RdS.q i) ((0 : Nat) + Int.toNat (IntKind.wrap IntKind.i64 (Int.tdiv ((↑(RdS.k i) : Int) - 1) (32 : Int)))) (0 : Int)) ||| BitVec.ofInt (IntKind.bits IntKind.u32) (IntKind.wrap IntKind.u32 ((1 : Int) * 2 ^ min (Int.toNat (IntKind.wrap IntKind.u64 (Int.tmod ((↑(RdS.k i) : Int) - 1) (32 : Int)))) (IntKind.bits IntKind.u32))))) : Int)) = RdS.q j ∧ digs (List.length (RdS.d i)) (wv (RdS.d i) / 2) = RdS.d j ∧ True) ∧ RdS.k j < RdS.k i else ((∀ (x : Int), x ∈ RdS.d i → (0 : Int) ≤ x ∧ x < 4294967296) ∧ n / 32 + List.length b + 1 = List.length (RdS.d i) ∧ n / 32 + List.length b + 1 ≤ 1000000000) ∧ ∃ j, RdI a b n j ∧ (((0 : Nat) = 0 ∧ ((0 : Nat) = 0 ∧ List.length a = List.length a) ∧ ((0 : Nat) = 0 ∧ n / 32 + 1 = n / 32 + 1) ∧ ((0 : Nat) = 0 ∧ n / 32 + List.length b + 1 = n / 32 + List.length b + 1) ∧ IntKind.wrap IntKind.i64 ((↑(RdS.k i) : Int) - 1 - 1) = (↑(RdS.k j) : Int) - 1 ∧ True) ∧ (Value.slice none (0 : Nat) (0 : Nat) = Value.slice none (0 : Nat) (0 : Nat) ∧ Value.slice none (0 : Nat) (0 : Nat) = Value.slice none (0 : Nat) (0 : Nat) ∧ True) ∧ RdS.r i = RdS.r j ∧ RdS.q i = RdS.q j ∧ digs (List.length (RdS.d i)) (wv (RdS.d i) / 2) = RdS.d j ∧ True) ∧ RdS.k j < RdS.k i else ((0 : Nat) + (n / 32 + 1) ≤ List.length (RdS.q i) ∧ (0 : Nat) + List.length a ≤ List.length (RdS.r i)) ∧ List.take (n / 32 + 1) (List.drop (0 : Nat) (RdS.q i)) = divQ a b ∧ List.take (List.length a) (List.drop (0 : Nat) (RdS.r i)) = divR a b ∧ True) = evFn (envM [c_rword, c_rbits2, c_rreach] [n_rleft, n_rhalf, n_rtake] (a_rdivide a b n) (k_rdivide a b)) Tryz.f119 [.ws a, .ws b] (MRes.sat (.ret (.st [.ws (divQ a b), .ws (divR a b)]))) := by kernel_rfl
theorem pow_split (i : Nat) : (2 : Int) ^ i = 4294967296 ^ (i / 32) * 2 ^ (i % 32) := by
 rw [show (4294967296 : Int) = 2 ^ 32 from rfl, ← Int.pow_mul, ← Int.pow_add]; congr 1; omega
theorem wv2 {l : List Int} (h : l.length ≤ 2) : wdg l 1 * 4294967296 + wdg l 0 = wv l := by
 have e0 : wdg l 0 = l.getD 0 0 := wdg_nat l 0
 have e1 : wdg l 1 = l.getD 1 0 := wdg_nat l 1
 rw [e0, e1]
 match l, h with
 | [], _ => simp [wv]
 | [x], _ => simp [wv]
 | [x, y], _ => simp [wv]; omega
theorem RdI.init {a b : List Int} (ha : Cn a) (hb : Cn b) (hne : b ≠ []) {n : Nat} (hn : bl (wv a).toNat = bl (wv b).toNat + n) :
  RdI a b n ⟨n + 1, a, List.replicate (n / 32 + 1) 0, digs (n / 32 + b.length + 1) (wv b * 2 ^ n)⟩ := by
 have hap := ha.pos
 have hbp : 0 < wv b := by have := hb.top hne; have := pow_pos32 (b.length - 1); omega
 have hP : (0 : Int) < 2 ^ n := Int.pow_pos (by omega)
 have hd : wv (digs (n / 32 + b.length + 1) (wv b * 2 ^ n)) = wv b * 2 ^ n := by
  refine wv_digs _ _ (Int.mul_nonneg (by omega) (by omega)) ?_
  have h1 := wv_lt hb.wd
  have h2 : (2 : Int) ^ (n % 32) < 4294967296 := by
   have := Nat.pow_lt_pow_right (show 1 < 2 by omega) (Nat.mod_lt n (show 0 < 32 by omega))
   rw [← cast_pow2]; omega
  have h3 : (0 : Int) < 2 ^ (n % 32) := Int.pow_pos (by omega)
  have h4 : (4294967296 : Int) ^ (n / 32 + b.length + 1) = 4294967296 ^ (n / 32) * (4294967296 ^ b.length * 4294967296) := by rw [Int.pow_add, Int.pow_add]; simp [Int.mul_assoc]
  have h5 : wv b * 2 ^ (n % 32) < 4294967296 ^ b.length * 4294967296 := Int.mul_lt_mul h1 (by omega) h3 (by have := pow_pos32 b.length; omega)
  rw [h4, pow_split n, ← Int.mul_assoc, Int.mul_comm (wv b), Int.mul_assoc]
  exact Int.mul_lt_mul_of_pos_left h5 (pow_pos32 _)
 refine ⟨Nat.le_refl _, rfl, by simp, digs_len _ _, ha.wd, Wd.replicate _, digs_wd _ _, ?_, ?_, ?_, ?_⟩
 ·show wv (digs _ _) = wv b * 2 ^ (n + 1) / 2
  rw [hd, Int.pow_succ, ← Int.mul_assoc, Int.mul_ediv_cancel _ (by omega)]
 ·show wv a = wv (List.replicate _ 0) * _ + wv a
  rw [wv_replicate, Int.zero_mul]; omega
 ·show wv a < wv b * 2 ^ (n + 1)
  obtain ⟨A, hA⟩ := Int.eq_ofNat_of_zero_le hap
  obtain ⟨B, hB⟩ := Int.eq_ofNat_of_zero_le (show 0 ≤ wv b by omega)
  rw [hA, hB, Int.toNat_natCast, Int.toNat_natCast] at hn
  have h1 := bl_lt A
  have hB0 : B ≠ 0 := by omega
  have h2 := bl_le hB0
  have hbl : bl B ≠ 0 := by intro e; have := bl_lt B; rw [e] at this; omega
  have h3 : 2 ^ bl A = 2 ^ (bl B - 1) * 2 ^ (n + 1) := by rw [← Nat.pow_add]; congr 1; omega
  have h4 : 2 ^ (bl B - 1) * 2 ^ (n + 1) ≤ B * 2 ^ (n + 1) := Nat.mul_le_mul_right _ h2
  rw [hA, hB, ← cast_pow2, ← Int.natCast_mul]
  omega
 ·show _ ∣ wv (List.replicate _ 0)
  rw [wv_replicate]; exact Int.dvd_zero _
theorem RdI.digit {a b : List Int} {n : Nat} {s : RdS} (h : RdI a b n s) {i : Nat} (hi : s.k = i + 1) :
  (s.q.getD (i / 32) 0).toNat % 2 ^ (i % 32 + 1) = 0 ∧ s.q.getD (i / 32) 0 + 2 ^ (i % 32) < 4294967296 := by
 have hq := h.qz
 rw [hi] at hq
 have hw := h.wq.getD (i / 32)
 have h1 := wv_take_drop s.q (i / 32)
 rw [getD_drop_wv] at h1
 have h2 := wv_take_lt h.wq (i / 32)
 have hp := pow_pos32 (i / 32)
 have hc : (2 : Int) ^ (i + 1) = 4294967296 ^ (i / 32) * 2 ^ (i % 32 + 1) := by rw [Int.pow_succ, pow_split i, Int.pow_succ]; grind
 obtain ⟨k, hk⟩ := hq
 rw [hc] at hk
 have hz : wv (s.q.take (i / 32)) = 0 := by
  have e : wv (s.q.take (i / 32)) = 4294967296 ^ (i / 32) * (2 ^ (i % 32 + 1) * k - (s.q.getD (i / 32) 0 + 4294967296 * wv (s.q.drop (i / 32 + 1)))) := by
   rw [Int.mul_sub, ← Int.mul_assoc]; omega
  have d : (4294967296 : Int) ^ (i / 32) ∣ wv (s.q.take (i / 32)) := ⟨_, e⟩
  rw [← Int.emod_eq_of_lt h2.1 h2.2]; exact Int.emod_eq_zero_of_dvd d
 rw [hz, Int.zero_add] at h1
 have h3 : s.q.getD (i / 32) 0 + 4294967296 * wv (s.q.drop (i / 32 + 1)) = 2 ^ (i % 32 + 1) * k := by
  refine Int.eq_of_mul_eq_mul_left (show (4294967296 : Int) ^ (i / 32) ≠ 0 by omega) ?_
  rw [← h1, hk, Int.mul_assoc]
 have hm : i % 32 + 1 + (31 - i % 32) = 32 := by omega
 have h4 : (4294967296 : Int) = 2 ^ (i % 32 + 1) * 2 ^ (31 - i % 32) := by rw [← Int.pow_add, hm]; rfl
 have hP : (0 : Int) < 2 ^ (i % 32 + 1) := Int.pow_pos (by omega)
 have hd : (2 : Int) ^ (i % 32 + 1) ∣ s.q.getD (i / 32) 0 := by
  refine ⟨k - 2 ^ (31 - i % 32) * wv (s.q.drop (i / 32 + 1)), ?_⟩
  rw [Int.mul_sub, ← Int.mul_assoc, ← h4]; omega
 obtain ⟨m, hm⟩ := hd
 have hm0 : 0 ≤ m := by
  rcases Int.lt_or_le m 0 with q | q
  ·have := Int.mul_lt_mul_of_pos_left q hP
   omega
  ·exact q
 have hP1 : (2 : Int) ^ (i % 32 + 1) = 2 ^ (i % 32) * 2 := Int.pow_succ ..
 refine ⟨?_, ?_⟩
 ·obtain ⟨M, rfl⟩ := Int.eq_ofNat_of_zero_le hm0
  rw [hm, ← cast_pow2, ← Int.natCast_mul, Int.toNat_natCast, Nat.mul_mod_right]
 ·have hlt : m < 2 ^ (31 - i % 32) := by
   refine mul_lt_cancel hP ?_
   rw [← hm, ← h4]; exact hw.2
  have h5 : (2 : Int) ^ (i % 32 + 1) * (m + 1) ≤ 2 ^ (i % 32 + 1) * 2 ^ (31 - i % 32) := Int.mul_le_mul_of_nonneg_left (by omega) (by omega)
  rw [← h4, Int.mul_add, Int.mul_one, ← hm] at h5
  have h6 : (0 : Int) < 2 ^ (i % 32) := Int.pow_pos (by omega)
  omega
theorem RdI.dval {a b : List Int} {n : Nat} {s : RdS} (h : RdI a b n s) {i : Nat} (hi : s.k = i + 1) : wv s.d = wv b * 2 ^ i := by
 rw [h.dv, hi, Int.pow_succ, ← Int.mul_assoc, Int.mul_ediv_cancel _ (by omega)]
theorem wv_half_digs {l : List Int} (h : Wd l) : wv (digs l.length (wv l / 2)) = wv l / 2 := by
 have h0 := wv_nonneg h
 have h1 := wv_lt h
 exact wv_digs _ _ (by omega) (by omega)
theorem RdI.skip {a b : List Int} {n : Nat} {s : RdS} (h : RdI a b n s) {i : Nat} (hi : s.k = i + 1) (hc : ¬ wv s.d ≤ wv s.r) : RdI a b n ⟨i, s.r, s.q, digs s.d.length (wv s.d / 2)⟩ := by
 have hd := h.dval hi
 refine ⟨by show i ≤ n + 1; have := h.hk; omega, h.lr, h.lq, by simp [digs_len, h.ld], h.wr, h.wq, digs_wd _ _, ?_, h.sum, ?_, ?_⟩
 ·show wv (digs _ _) = _
  rw [wv_half_digs h.wd, hd]
 ·show wv s.r < wv b * 2 ^ i
  rw [hd] at hc; omega
 ·have := h.qz
  rw [hi, Int.pow_succ] at this
  exact Int.dvd_trans (Int.dvd_mul_right _ _) this
theorem RdI.take {a b : List Int} {n : Nat} {s : RdS} (h : RdI a b n s) {i : Nat} (hi : s.k = i + 1) (hc : wv s.d ≤ wv s.r) :
  RdI a b n ⟨i, digs s.r.length (wv s.r - wv s.d), s.q.set (i / 32) (s.q.getD (i / 32) 0 + 2 ^ (i % 32)), digs s.d.length (wv s.d / 2)⟩ := by
 have hd := h.dval hi
 have hk := h.hk
 have hg := h.digit hi
 have hw := h.wq.getD (i / 32)
 have hP : (0 : Int) < 2 ^ (i % 32) := Int.pow_pos (by omega)
 have hr : wv (digs s.r.length (wv s.r - wv s.d)) = wv s.r - wv s.d := by
  have h0 := wv_nonneg h.wd
  have h1 := wv_lt h.wr
  exact wv_digs _ _ (by omega) (by omega)
 have hq : wv (s.q.set (i / 32) (s.q.getD (i / 32) 0 + 2 ^ (i % 32))) = wv s.q + 2 ^ i := by
  rw [wv_set _ _ _ (by rw [h.lq]; omega), pow_split i]
  congr 2; omega
 refine ⟨by show i ≤ n + 1; omega, by simp [digs_len, h.lr], by simp [h.lq], by simp [digs_len, h.ld], digs_wd _ _, h.wq.set _ ⟨by omega, hg.2⟩, digs_wd _ _, ?_, ?_, ?_, ?_⟩
 ·show wv (digs _ _) = _
  rw [wv_half_digs h.wd, hd]
 ·show wv a = wv (s.q.set _ _) * wv b + wv (digs _ _)
  rw [hq, hr, hd, h.sum, Int.add_mul, Int.mul_comm (wv b)]; omega
 ·show wv (digs _ _) < wv b * 2 ^ i
  rw [hr, hd]
  have := h.lt
  rw [hi, Int.pow_succ, ← Int.mul_assoc] at this
  omega
 ·show _ ∣ wv (s.q.set _ _)
  rw [hq]
  have := h.qz
  rw [hi, Int.pow_succ] at this
  exact Int.dvd_add (Int.dvd_trans (Int.dvd_mul_right _ _) this) (Int.dvd_refl _)
theorem RdI.fin {a b : List Int} (hb : 0 < wv b) {n : Nat} {s : RdS} (h : RdI a b n s) (hk : s.k = 0) : wv s.q = wv a / wv b ∧ wv s.r = wv a % wv b := by
 have h1 := h.lt
 rw [hk, Int.pow_zero, Int.mul_one] at h1
 have h2 := h.sum
 have h3 := wv_nonneg h.wr
 have := divmod_unique (a := wv a) (b := wv b) (q := wv s.q) (r := wv s.r) (by rw [Int.mul_comm]; omega) h3 (by omega)
 exact ⟨this.1.symm, this.2.symm⟩
theorem digs2 (z : Int) : digs 2 z = [z % 4294967296, z / 4294967296 % 4294967296] := rfl
theorem p_rdivide : Good Tryz.f119 s_rdivide := by
 intro ms p r h hp
 unfold s_rdivide at h
 split at h
 ·rename_i a b
  simp only [Option.some.injEq, Prod.mk.injEq] at h
  obtain ⟨rfl, rfl⟩ := h
  obtain ⟨ha, hb, hne, la, lb⟩ : Cn a ∧ Cn b ∧ b ≠ [] ∧ a.length ≤ 31000 ∧ b.length ≤ 31000 := hp
  have hap := ha.pos
  have hbp : 0 < wv b := by have := hb.top hne; have := pow_pos32 (b.length - 1); omega
  refine ⟨envM [c_rword, c_rbits2, c_rreach] [n_rleft, n_rhalf, n_rtake] (a_rdivide a b (bl (wv a).toNat - bl (wv b).toNat)) (k_rdivide a b), ?_⟩
  rw [← vc_rdivide a b (bl (wv a).toNat - bl (wv b).toNat)]
  refine ⟨?_, ?_⟩
  ·have fin : smallL a b = false → ∃ _ : Unit, (True ∧ smallL a b = false) ∧ (True ∧ True ∧ True ∧ True) ∧ (True ∧ True ∧ True) ∧ True := fun h => ⟨(), ⟨True.intro, h⟩, ⟨True.intro, True.intro, True.intro, True.intro⟩, ⟨True.intro, True.intro, True.intro⟩, True.intro⟩
   simp only [Bool.cond_decide]
   split
   ·rename_i h1
    split
    ·rename_i h2
     have ea := wv2 (show a.length ≤ 2 by omega)
     have eb := wv2 (show b.length ≤ 2 by omega)
     have wa0 := wdg_wd ha.wd 0
     have wa1 := wdg_wd ha.wd 1
     have wb0 := wdg_wd hb.wd 0
     have wb1 := wdg_wd hb.wd 1
     have oa : IntKind.u64.wrap (↑(BitVec.ofInt (IntKind.bits IntKind.u64) (wdg a 0) ||| BitVec.ofInt (IntKind.bits IntKind.u64) (IntKind.u64.wrap (wdg a 1 * 4294967296))).toNat) = wv a := by
      rw [BitVec.or_comm, or_hi wa1 wa0, ea]
     have ob : IntKind.u64.wrap (↑(BitVec.ofInt (IntKind.bits IntKind.u64) (wdg b 0) ||| BitVec.ofInt (IntKind.bits IntKind.u64) (IntKind.u64.wrap (wdg b 1 * 4294967296))).toNat) = wv b := by
      rw [BitVec.or_comm, or_hi wb1 wb0, eb]
     have hdv0 := Int.ediv_nonneg hap (show 0 ≤ wv b by omega)
     have hdv1 := Int.ediv_le_self (wv b) hap
     have hm0 := Int.emod_nonneg (wv a) (show wv b ≠ 0 by omega)
     have hm1 := Int.emod_lt_of_pos (wv a) hbp
     have x1 : IntKind.u64.wrap (wv a / wv b) = wv a / wv b := eu64 (by omega)
     have hs : smallL a b = true := by unfold smallL; rw [decide_eq_true (by omega), decide_eq_true (by omega)]; rfl
     simp only [p32, oa, ob, Int.tdiv_eq_ediv_of_nonneg hap, Int.tmod_eq_emod_of_nonneg hap, x1, Int.fdiv_eq_ediv_of_nonneg _ (show (0 : Int) ≤ 4294967296 by omega), u32w, divQ, divR, hs, cond_true, digs2]
     exact ⟨ha.wd, ha.wd, by omega, hb.wd, hb.wd, by omega, fun e => by omega, fun e => by omega, by omega, fun e => by omega, fun e => by omega, by omega, ⟨by simp, by simp⟩, rfl, rfl, True.intro⟩
    ·rename_i h2
     exact fin (by unfold smallL; rw [decide_eq_false (p := b.length ≤ 2) (by omega)]; simp)
   ·rename_i h1
    exact fin (by unfold smallL; rw [decide_eq_false (p := a.length ≤ 2) (by omega)]; simp)
  ·rintro ⟨⟩ ⟨-, hs⟩
   have hla : bl (wv a).toNat ≤ 1000000 := bl_words2 ha.wd (by omega)
   have hlb : bl (wv b).toNat ≤ 1000000 := bl_words2 hb.wd (by omega)
   have ew : IntKind.i64.wrap ((bl (wv a).toNat : Int) - (bl (wv b).toNat : Int)) = (bl (wv a).toNat : Int) - (bl (wv b).toNat : Int) := i64w (by omega) (by omega)
   simp only [ew, Bool.cond_decide]
   refine ⟨⟨by simp, by show (0 + a.length) * 4 ≤ _; omega⟩, ⟨ha, by omega⟩, ⟨hb, by omega⟩, ?_⟩
   split
   ·rename_i hlt
    have hlt : decide (bl (wv a).toNat < bl (wv b).toNat) = true := decide_eq_true (by omega)
    refine ⟨by show 0 + (0 + a.length) ≤ (a).length; omega, ⟨(by and_intros <;> first | exact True.intro | rfl | omega), ?_⟩, ?_, True.intro⟩
    ·unfold divQ; rw [hs, cond_false, hlt, cond_true]
    ·unfold divR; rw [hs, cond_false, hlt, cond_true]
     show List.take (0 + a.length) a = a
     rw [Nat.zero_add, List.take_length]
   ·rename_i hlt
    have hltd : decide (bl (wv a).toNat < bl (wv b).toNat) = false := decide_eq_false (by omega)
    obtain ⟨n, hn⟩ : ∃ n : Nat, bl (wv a).toNat = bl (wv b).toNat + n := ⟨bl (wv a).toNat - bl (wv b).toNat, by omega⟩
    have e0 : (bl (wv a).toNat : Int) - (bl (wv b).toNat : Int) = (n : Int) := by omega
    have e1 : bl (wv a).toNat - bl (wv b).toNat = n := by omega
    have eq : IntKind.i64.wrap (Int.tdiv (n : Int) 32) = ((n / 32 : Nat) : Int) := by
     have e : Int.tdiv (n : Int) 32 = ((n / 32 : Nat) : Int) := rfl
     rw [e, i64w (by omega) (by omega)]
    have eq1 : IntKind.i64.wrap (((n / 32 : Nat) : Int) + 1) = ((n / 32 + 1 : Nat) : Int) := by rw [i64w (by omega) (by omega)]; omega
    have hQ : divQ a b = digs (n / 32 + 1) (wv a / wv b) := by unfold divQ; rw [hs, cond_false, hltd, cond_false, e1]
    have hR : divR a b = digs a.length (wv a % wv b) := by unfold divR; rw [hs, cond_false, hltd, cond_false]
    simp only [e0, e1, eq, eq1, Int.toNat_natCast, hQ, hR]
    refine ⟨fun e => by omega, (by and_intros <;> first | exact True.intro | rfl | omega), ⟨hb.wd, by omega, by omega, by omega⟩, ⟨_, RdI.init ha hb hne hn, ⟨(by and_intros <;> first | exact True.intro | rfl | omega), ⟨(by and_intros <;> first | exact True.intro | rfl | omega), by show 0 + a.length = a.length; omega⟩, (by and_intros <;> first | exact True.intro | rfl | omega), ⟨(by and_intros <;> first | exact True.intro | rfl | omega), digs_len _ _⟩, by show (n : Int) = ((n + 1 : Nat) : Int) - 1; omega, True.intro⟩, (by and_intros <;> first | exact True.intro | rfl | omega), (by and_intros <;> first | exact True.intro | rfl | omega)⟩, ?_⟩
    rintro ⟨k, rr, q, d⟩ hI
    have hk : k ≤ n + 1 := hI.hk
    have hlr : rr.length = a.length := hI.lr
    have hlq : q.length = n / 32 + 1 := hI.lq
    have hld : d.length = n / 32 + b.length + 1 := hI.ld
    have hwr : Wd rr := hI.wr
    have hwd : Wd d := hI.wd
    have t1 : List.take a.length (List.drop 0 rr) = rr := by rw [List.drop_zero]; exact List.take_of_length_le (by omega)
    have t2 : List.take (n / 32 + b.length + 1) (List.drop 0 d) = d := by rw [List.drop_zero]; exact List.take_of_length_le (by omega)
    have t3 : List.take (n / 32 + 1) (List.drop 0 q) = q := by rw [List.drop_zero]; exact List.take_of_length_le (by omega)
    simp only [t1, t2, t3]
    split
    ·rename_i hge
     have hge : (k : Int) - 1 ≥ 0 := hge
     obtain ⟨i, rfl⟩ : ∃ i, k = i + 1 := ⟨k - 1, by omega⟩
     have f0 : (((i + 1 : Nat) : Int) - 1) = (i : Int) := by omega
     have f1 : IntKind.i64.wrap (Int.tdiv (i : Int) 32) = ((i / 32 : Nat) : Int) := by
      have e : Int.tdiv (i : Int) 32 = ((i / 32 : Nat) : Int) := rfl
      rw [e, i64w (by omega) (by omega)]
     have f2 : IntKind.u64.wrap (Int.tmod (i : Int) 32) = ((i % 32 : Nat) : Int) := by
      have e : Int.tmod (i : Int) 32 = ((i % 32 : Nat) : Int) := rfl
      rw [e, eu64 (by omega)]
     have hc : i % 32 < 32 := Nat.mod_lt _ (by omega)
     have f3 : min (i % 32) (IntKind.bits IntKind.u32) = i % 32 := by show min (i % 32) 32 = _; omega
     have f4 : IntKind.i64.wrap ((i : Int) - 1) = (i : Int) - 1 := i64w (by omega) (by omega)
     have hg := hI.digit (i := i) rfl
     have hgw := hI.wq.getD (i / 32)
     have hP : (0 : Int) < 2 ^ (i % 32) := Int.pow_pos (by omega)
     have hg2 : q.getD (i / 32) 0 + 2 ^ (i % 32) < 4294967296 := hg.2
     have hgw : 0 ≤ q.getD (i / 32) 0 ∧ q.getD (i / 32) 0 < 4294967296 := hgw
     have f5 : IntKind.u32.wrap (1 * 2 ^ (i % 32)) = 2 ^ (i % 32) := by rw [Int.one_mul]; exact eu32 (by omega)
     have hn2 : ((2 ^ (i % 32) : Nat) : Int) = (2 : Int) ^ (i % 32) := cast_pow2 _
     have hn3 : 2 ^ (i % 32 + 1) = 2 ^ (i % 32) * 2 := Nat.pow_succ ..
     have f6 := or32 (A := q.getD (i / 32) 0) (y := 2 ^ (i % 32)) (i % 32 + 1) hgw.1 hgw.2 hg.1 (by omega) (by omega) hg2
     rw [BitVec.or_comm] at f6
     simp only [f0, f1, f2, f3, f4, f5, f6, Int.toNat_natCast, Nat.zero_add]
     refine ⟨⟨⟨by omega, by omega⟩, hwr, hwd, by omega, by omega⟩, ?_⟩
     split
     ·rename_i hle
      exact ⟨⟨hwr, hwd, by omega, by omega, by omega, hle⟩, fun e => by omega, (by and_intros <;> first | exact True.intro | rfl | omega), by omega, fun e => by omega, by omega, (by and_intros <;> first | exact True.intro | rfl | omega), by omega, ⟨hwd, by omega, by omega⟩, _, hI.take (i := i) rfl hle, ⟨(by and_intros <;> first | exact True.intro | rfl | omega), (by and_intros <;> first | exact True.intro | rfl | omega), (by and_intros <;> first | exact True.intro | rfl | omega)⟩, Nat.lt_succ_self i⟩
     ·rename_i hle
      exact ⟨⟨hwd, by omega, by omega⟩, _, hI.skip (i := i) rfl hle, ⟨(by and_intros <;> first | exact True.intro | rfl | omega), (by and_intros <;> first | exact True.intro | rfl | omega), (by and_intros <;> first | exact True.intro | rfl | omega)⟩, Nat.lt_succ_self i⟩
    ·rename_i hge
     have hk0 : k = 0 := by have : ¬ (k : Int) - 1 ≥ 0 := hge; omega
     obtain ⟨g1, g2⟩ := hI.fin hbp hk0
     have g1 : wv q = wv a / wv b := g1
     have g2 : wv rr = wv a % wv b := g2
     have d1 := digs_wv hI.wq
     have d2 := digs_wv hwr
     have d1 : digs q.length (wv q) = q := d1
     rw [g1, hlq] at d1
     rw [g2, hlr] at d2
     exact ⟨⟨by omega, by omega⟩, d1.symm, d2.symm, True.intro⟩
 ·simp at h
def c_rdivide : Ctr Tryz.prog := ⟨119, s_rdivide, fun args w => Tryz.call119 args w, fn_ok mix Tryz.func119 s_rdivide p_rdivide⟩
end Go.Proofs.YtnfmjlhkknndhaaGreat
/-
 Contracts of functions: the reference of layer 1: division, common divisors.
-/
namespace Go.Proofs.YtnfmjlhkknndhaaGreat
open Go Go.RowKit
theorem divQ_wd (a b : List Int) : Wd (divQ a b) := by
 unfold divQ
 cases smallL a b
 ·cases decide (bl (wv a).toNat < bl (wv b).toNat)
  ·exact digs_wd _ _
  ·exact Wd.nil
 ·exact digs_wd _ _
theorem divR_wd {a : List Int} (ha : Wd a) (b : List Int) : Wd (divR a b) := by
 unfold divR
 cases smallL a b
 ·cases decide (bl (wv a).toNat < bl (wv b).toNat)
  ·exact digs_wd _ _
  ·exact ha
 ·exact digs_wd _ _
theorem divR_len (a b : List Int) : (divR a b).length ≤ a.length + 2 := by
 unfold divR
 cases smallL a b
 ·cases decide (bl (wv a).toNat < bl (wv b).toNat)
  ·rw [cond_false, cond_false, digs_len]; omega
  ·rw [cond_false, cond_true]; omega
 ·rw [cond_true, digs_len]; omega
theorem divQ_len (a b : List Int) : (divQ a b).length ≤ bl (wv a).toNat / 32 + 2 := by
 unfold divQ
 cases smallL a b
 ·cases decide (bl (wv a).toNat < bl (wv b).toNat)
  ·rw [cond_false, cond_false, digs_len]; omega
  ·rw [cond_false, cond_true]; simp
 ·rw [cond_true, digs_len]; omega
theorem bl_lt_of {a b : Nat} (h : bl a < bl b) : a < b := by
 rcases Nat.lt_or_ge a b with q | q
 ·exact q
 ·have h1 := bl_lt a
  have h2 := bl_le (n := b) (by intro e; subst e; rw [bl_zero] at h; omega)
  have : 2 ^ (bl b - 1) < 2 ^ bl a := by omega
  have := (Nat.pow_lt_pow_iff_right (by omega : 1 < 2)).1 this
  have h5 : 2 ^ bl a ≤ 2 ^ (bl b - 1) := Nat.pow_le_pow_right (by omega) (by omega)
  omega
theorem div_wv {a b : List Int} (ha : Cn a) (hb : 0 < wv b) : wv (divQ a b) = wv a / wv b ∧ wv (divR a b) = wv a % wv b := by
 have hap := ha.pos
 have hlt := wv_lt ha.wd
 have hd0 := Int.ediv_nonneg hap (show 0 ≤ wv b by omega)
 have hd1 := Int.ediv_le_self (wv b) hap
 have hm0 := Int.emod_nonneg (wv a) (show wv b ≠ 0 by omega)
 have hm1 : wv a % wv b ≤ wv a := by
  have h1 := Int.mul_ediv_add_emod (wv a) (wv b)
  have h2 := Int.mul_nonneg (show 0 ≤ wv b by omega) hd0
  omega
 unfold divQ divR
 cases hs : smallL a b with
 | true =>
  rw [cond_true, cond_true]
  have hl : a.length ≤ 2 := by unfold smallL at hs; simp at hs; exact hs.1
  have h2 := pow_le32 hl
  exact ⟨wv_digs _ _ hd0 (by omega), wv_digs _ _ hm0 (by omega)⟩
 | false =>
  rw [cond_false, cond_false]
  cases hc : decide (bl (wv a).toNat < bl (wv b).toNat) with
  | true =>
   rw [cond_true, cond_true]
   have := bl_lt_of (of_decide_eq_true hc)
   rw [Int.ediv_eq_zero_of_lt hap (by omega), Int.emod_eq_of_lt hap (by omega)]
   exact ⟨rfl, rfl⟩
  | false =>
   rw [cond_false, cond_false]
   refine ⟨wv_digs _ _ hd0 ?_, wv_digs _ _ hm0 (by omega)⟩
   obtain ⟨A, hA⟩ := Int.eq_ofNat_of_zero_le hap
   obtain ⟨B, hB⟩ := Int.eq_ofNat_of_zero_le (show 0 ≤ wv b by omega)
   rw [hA, hB, Int.toNat_natCast, Int.toNat_natCast] at hc ⊢
   have hc := of_decide_eq_false hc
   have h1 := bl_lt A
   have h2 := bl_le (n := B) (by omega)
   have hbB : bl B ≠ 0 := by intro e; have := bl_lt B; rw [e] at this; omega
   have h3 : A / B < 2 ^ (bl A - bl B + 1) := by
    rw [Nat.div_lt_iff_lt_mul (by omega)]
    have h4 : 2 ^ bl A = 2 ^ (bl A - bl B + 1) * 2 ^ (bl B - 1) := by rw [← Nat.pow_add]; congr 1; omega
    have h5 : 2 ^ (bl A - bl B + 1) * 2 ^ (bl B - 1) ≤ 2 ^ (bl A - bl B + 1) * B := Nat.mul_le_mul_left _ h2
    omega
   have h6 : 2 ^ (bl A - bl B + 1) ≤ 4294967296 ^ ((bl A - bl B) / 32 + 1) := by
    rw [pow_words]; exact Nat.pow_le_pow_right (by omega) (by omega)
   rw [← cast_pow32, ← Int.natCast_ediv]
   omega
theorem vc_rdivmod (a b : Int) (n m : Nat) : (bif (↑(List.length (limbs (Int.natAbs b))) : Int) == 0 then bif decide (b = 0) then LeB 0 0 0 0 ∧ LeB 0 0 0 0 ∧ (4 : Int) = 4 ∧ True else LeB 0 (a / b) 0 n ∧ LeB 0 (a % b) 0 m ∧ (4 : Int) = 0 ∧ True else (limbs (Int.toNat (wv (limbs (Int.natAbs a)))) = limbs (Int.natAbs a) ∧ limbs (Int.toNat (wv (limbs (Int.natAbs b)))) = limbs (Int.natAbs b) ∧ (limbs (Int.natAbs b) = [] → False) ∧ List.length (limbs (Int.natAbs a)) ≤ 31000 ∧ List.length (limbs (Int.natAbs b)) ≤ 31000) ∧ ((∀ (x : Int), x ∈ divQ (limbs (Int.natAbs a)) (limbs (Int.natAbs b)) → (0 : Int) ≤ x ∧ x < 4294967296) ∧ List.length (divQ (limbs (Int.natAbs a)) (limbs (Int.natAbs b))) ≤ 1000000000) ∧ ((∀ (x : Int), x ∈ divR (limbs (Int.natAbs a)) (limbs (Int.natAbs b)) → (0 : Int) ≤ x ∧ x < 4294967296) ∧ List.length (divR (limbs (Int.natAbs a)) (limbs (Int.natAbs b))) ≤ 1000000000) ∧ bif decide (sg (decide (a < 0)) (wv (divR (limbs (Int.natAbs a)) (limbs (Int.natAbs b)))) < 0) then m ≤ 1000000 ∧ ((32 : Nat) * List.length (divR (limbs (Int.natAbs a)) (limbs (Int.natAbs b))) ≤ 1000000 ∧ m ≤ 1000000) ∧ bif decide (b < 0) then Fit 1 ∧ ((32 : Nat) * List.length (divQ (limbs (Int.natAbs a)) (limbs (Int.natAbs b))) ≤ 1000000 ∧ (64 : Nat) ≤ 1000000) ∧ bif decide (b = 0) then LeB (sg (!decide (a < 0) == decide (b < 0)) (wv (divQ (limbs (Int.natAbs a)) (limbs (Int.natAbs b)))) + 1) 0 (max ((32 : Nat) * List.length (divQ (limbs (Int.natAbs a)) (limbs (Int.natAbs b)))) (64 : Nat) + 1) 0 ∧ LeB (sg (decide (a < 0)) (wv (divR (limbs (Int.natAbs a)) (limbs (Int.natAbs b)))) + (↑(Int.natAbs b) : Int)) 0 (max ((32 : Nat) * List.length (divR (limbs (Int.natAbs a)) (limbs (Int.natAbs b)))) m + 1) 0 ∧ (0 : Int) = 4 ∧ True else LeB (sg (!decide (a < 0) == decide (b < 0)) (wv (divQ (limbs (Int.natAbs a)) (limbs (Int.natAbs b)))) + 1) (a / b) (max ((32 : Nat) * List.length (divQ (limbs (Int.natAbs a)) (limbs (Int.natAbs b)))) (64 : Nat) + 1) n ∧ LeB (sg (decide (a < 0)) (wv (divR (limbs (Int.natAbs a)) (limbs (Int.natAbs b)))) + (↑(Int.natAbs b) : Int)) (a % b) (max ((32 : Nat) * List.length (divR (limbs (Int.natAbs a)) (limbs (Int.natAbs b)))) m + 1) m ∧ (0 : Int) = 0 ∧ True else Fit 1 ∧ ((32 : Nat) * List.length (divQ (limbs (Int.natAbs a)) (limbs (Int.natAbs b))) ≤ 1000000 ∧ (64 : Nat) ≤ 1000000) ∧ bif decide (b = 0) then LeB (sg (!decide (a < 0) == decide (b < 0)) (wv (divQ (limbs (Int.natAbs a)) (limbs (Int.natAbs b)))) - 1) 0 (max ((32 : Nat) * List.length (divQ (limbs (Int.natAbs a)) (limbs (Int.natAbs b)))) (64 : Nat) + 1) 0 ∧ LeB (sg (decide (a < 0)) (wv (divR (limbs (Int.natAbs a)) (limbs (Int.natAbs b)))) + (↑(Int.natAbs b) : Int)) 0 (max ((32 : Nat) * List.length (divR (limbs (Int.natAbs a)) (limbs (Int.natAbs b)))) m + 1) 0 ∧ (0 : Int) = 4 ∧ True else LeB (sg (!decide (a < 0) == decide (b < 0)) (wv (divQ (limbs (Int.natAbs a)) (limbs (Int.natAbs b)))) - 1) (a / b) (max ((32 : Nat) * List.length (divQ (limbs (Int.natAbs a)) (limbs (Int.natAbs b)))) (64 : Nat) + 1) n ∧ LeB (sg (decide (a < 0)) (wv (divR (limbs (Int.natAbs a)) (limbs (Int.natAbs b)))) + (↑(Int.natAbs b) : Int)) (a % b) (max ((32 : Nat) * List.length (divR (limbs (Int.natAbs a)) (limbs (Int.natAbs b)))) m + 1) m ∧ (0 : Int) = 0 ∧ True else bif decide (b = 0) then LeB (sg (!decide (a < 0) == decide (b < 0)) (wv (divQ (limbs (Int.natAbs a)) (limbs (Int.natAbs b))))) 0 ((32 : Nat) * List.length (divQ (limbs (Int.natAbs a)) (limbs (Int.natAbs b)))) 0 ∧ LeB (sg (decide (a < 0)) (wv (divR (limbs (Int.natAbs a)) (limbs (Int.natAbs b))))) 0 ((32 : Nat) * List.length (divR (limbs (Int.natAbs a)) (limbs (Int.natAbs b)))) 0 ∧ (0 : Int) = 4 ∧ True else LeB (sg (!decide (a < 0) == decide (b < 0)) (wv (divQ (limbs (Int.natAbs a)) (limbs (Int.natAbs b))))) (a / b) ((32 : Nat) * List.length (divQ (limbs (Int.natAbs a)) (limbs (Int.natAbs b)))) n ∧ LeB (sg (decide (a < 0)) (wv (divR (limbs (Int.natAbs a)) (limbs (Int.natAbs b))))) (a % b) ((32 : Nat) * List.length (divR (limbs (Int.natAbs a)) (limbs (Int.natAbs b)))) m ∧ (0 : Int) = 0 ∧ True) = evFn (env [c_rdivide, c_rmade, c_radd, c_rsub, c_rabs, c_rof] noAnn) Tryz.f97 [.big a n, .big b m] (MRes.sat (.br (decide (b = 0)) (.ret (.tup [.big 0 0, .big 0 0, .int .i64 4])) (.ret (.tup [.big (a / b) n, .big (a % b) m, .int .i64 0])))) := by kernel_rfl
theorem p_rdivmod : GoodF Tryz.f97 s_divmod := by
 intro ms p r h hp hf
 unfold s_divmod at h
 split at h
 ·rename_i a n b m
  simp only [Option.some.injEq, Prod.mk.injEq] at h
  obtain ⟨rfl, rfl⟩ := h
  obtain ⟨hn, hm⟩ : n ≤ 900000 ∧ m ≤ 900000 := hp
  have ha : a.natAbs < 2 ^ n := hf.1
  have hb : b.natAbs < 2 ^ m := hf.2.1
  refine ⟨env [c_rdivide, c_rmade, c_radd, c_rsub, c_rabs, c_rof] noAnn, ?_⟩
  rw [← vc_rdivmod a b n m, len_zero_iff]
  have l1 := limbs_len_bits ha
  have l2 := limbs_len_bits hb
  by_cases hz : b = 0
  ·subst hz
   rw [show decide ((0 : Int) = 0) = true from rfl, cond_true, cond_true]
   exact ⟨⟨rfl, .inl (Nat.le_refl _)⟩, ⟨rfl, .inl (Nat.le_refl _)⟩, (by and_intros <;> first | exact True.intro | rfl | omega)⟩
  ·have hne : limbs b.natAbs ≠ [] := fun e => hz (by have := limbs_eq_nil.1 e; omega)
   have dq := div_wv (a := limbs a.natAbs) (b := limbs b.natAbs) (cn_limbs _) (by rw [wvl]; omega)
   rw [wvl, wvl, ← Int.natCast_ediv, ← Int.natCast_emod] at dq
   have q1 := divQ_len (limbs a.natAbs) (limbs b.natAbs)
   have q2 := divR_len (limbs a.natAbs) (limbs b.natAbs)
   rw [wvl, Int.toNat_natCast] at q1
   have hbl : bl a.natAbs ≤ n := bl_le_of ha
   simp only [show decide (b = 0) = false from decide_eq_false hz, cond_false, dq.1, dq.2, wvl, Int.toNat_natCast]
   obtain ⟨k1, k2⟩ := divmod_signs a b hz rfl rfl
   have hq : (a / b).natAbs < 2 ^ n := Nat.lt_of_le_of_lt (natAbs_ediv a b) ha
   have hr : (a % b).natAbs < 2 ^ m := Nat.lt_of_lt_of_le (natAbs_emod hz) (by omega)
   refine ⟨⟨True.intro, True.intro, hne, by omega, by omega⟩, ⟨divQ_wd _ _, by omega⟩, ⟨divR_wd (limbs_wd _) _, by omega⟩, ?_⟩
   simp only [Bool.cond_decide]
   split
   ·rename_i hc
    obtain ⟨k3, k4⟩ := k1 hc
    refine ⟨by omega, ⟨by omega, by omega⟩, ?_⟩
    split
    ·rename_i hneg
     have hs : sgn b = -1 := by unfold sgn; rw [if_neg hz, if_pos hneg]
     rw [hs] at k4
     have k4 : sg (!(decide (a < 0) == decide (b < 0))) ((a.natAbs / b.natAbs : Nat) : Int) + 1 = a / b := by omega
     rw [k3, k4]
     exact ⟨(by and_intros <;> first | exact True.intro | rfl | omega), ⟨by omega, by omega⟩, ⟨rfl, .inr hq⟩, ⟨rfl, .inr hr⟩, (by and_intros <;> first | exact True.intro | rfl | omega)⟩
    ·rename_i hneg
     have hs : sgn b = 1 := by unfold sgn; rw [if_neg hz, if_neg hneg]
     rw [hs] at k4
     rw [k3, k4]
     exact ⟨(by and_intros <;> first | exact True.intro | rfl | omega), ⟨by omega, by omega⟩, ⟨rfl, .inr hq⟩, ⟨rfl, .inr hr⟩, (by and_intros <;> first | exact True.intro | rfl | omega)⟩
   ·rename_i hc
    obtain ⟨k3, k4⟩ := k2 hc
    rw [k3, k4]
    exact ⟨⟨rfl, .inr hq⟩, ⟨rfl, .inr hr⟩, (by and_intros <;> first | exact True.intro | rfl | omega)⟩
 ·simp at h
def c_rdivmod : Ctr Tryz.prog := ⟨97, s_divmod, fun args w => Tryz.call97 args w, fn_ok_facts mix Tryz.func97 s_divmod p_rdivmod⟩
def c_rdivmod1 : Ctr Tryz.prog := c_rdivmod.weaken s_divmod1 w_divmod1
theorem vc_rmod (a b : Int) (n m : Nat) : ((n ≤ 900000 ∧ m ≤ 900000 ∧ (b = 0 → False)) ∧ a % b = a % b ∧ (m ≤ m ∨ Int.natAbs (a % b) < 2 ^ m)) = evFn (env [c_rdivmod1] noAnn) Tryz.f57 [.big a n, .big b m] (MRes.sat (.ret (.big (a % b) m))) := by kernel_rfl
theorem p_rmod : Good Tryz.f57 s_imod := by
 intro ms p r h hp
 unfold s_imod at h
 split at h
 ·rename_i a n b m
  simp only [Option.some.injEq, Prod.mk.injEq] at h
  obtain ⟨rfl, rfl⟩ := h
  obtain ⟨hn, hm, hb⟩ : n ≤ 900000 ∧ m ≤ 900000 ∧ b ≠ 0 := hp
  refine ⟨env [c_rdivmod1] noAnn, ?_⟩
  rw [← vc_rmod a b n m]
  exact ⟨⟨hn, hm, hb⟩, rfl, .inl (Nat.le_refl _)⟩
 ·simp at h
def c_rmod : Ctr Tryz.prog := ⟨57, s_imod, fun args w => Tryz.call57 args w, fn_ok mix Tryz.func57 s_imod p_rmod⟩
end Go.Proofs.YtnfmjlhkknndhaaGreat
/-
 Contracts of functions: the reference: common divisors; primes.
-/
namespace Go.Proofs.YtnfmjlhkknndhaaGreat
open Go Go.RowKit
def a_rgcd (a b : Int) (N : Nat) : Nat → MS → Option LoopAnn
 | 3, _ => some (.inv GcS (fun s => GcI a b N s ∧ 0 ≤ s.x ∧ 0 ≤ s.y) (fun s => ⟨20, [(2, .bp 0 0), (3, .bp 1 0), (4, .bp 2 0)], [⟨false, .one (.big s.x N)⟩, ⟨false, .one (.big s.y N)⟩, ⟨false, .one (.big 0 0)⟩], 0⟩) (fun s => s.y.natAbs))
 | _, _ => none
theorem vc_rgcd (a b : Int) (n m : Nat) : (n ≤ 1000000 ∧ m ≤ 1000000 ∧ (∃ i, (GcI a b (max n m) i ∧ (0 : Int) ≤ GcS.x i ∧ (0 : Int) ≤ GcS.y i) ∧ ((0 : Nat) = 0 ∧ (0 : Nat) = 0 ∧ (0 : Nat) = 0 ∧ True) ∧ LeB (↑(Int.natAbs a) : Int) (GcS.x i) n (max n m) ∧ LeB (↑(Int.natAbs b) : Int) (GcS.y i) m (max n m) ∧ LeB 0 0 0 0 ∧ True) ∧ ∀ (i : GcS), GcI a b (max n m) i ∧ (0 : Int) ≤ GcS.x i ∧ (0 : Int) ≤ GcS.y i → bif decide ((↑(List.length (limbs (Int.natAbs (GcS.y i)))) : Int) > 0) then (max n m ≤ 900000 ∧ max n m ≤ 900000 ∧ (GcS.y i = 0 → False)) ∧ ∃ j, (GcI a b (max n m) j ∧ (0 : Int) ≤ GcS.x j ∧ (0 : Int) ≤ GcS.y j) ∧ (((0 : Nat) = 0 ∧ (0 : Nat) = 0 ∧ (0 : Nat) = 0 ∧ True) ∧ LeB (GcS.y i) (GcS.x j) (max n m) (max n m) ∧ LeB (GcS.x i % GcS.y i) (GcS.y j) (max n m) (max n m) ∧ LeB 0 0 0 0 ∧ True) ∧ Int.natAbs (GcS.y j) < Int.natAbs (GcS.y i) else GcS.x i = (↑(Int.gcd a b) : Int) ∧ (max n m ≤ max n m ∨ Int.natAbs (GcS.x i) < 2 ^ max n m)) = evFn (env [c_rmod, c_rabs] (a_rgcd a b (max n m))) Tryz.f47 [.big a n, .big b m] (MRes.sat (.ret (.big (Int.gcd a b) (max n m)))) := by kernel_rfl
theorem p_rgcd : GoodF Tryz.f47 s_igcd := by
 intro ms p r h hp hf
 unfold s_igcd at h
 split at h
 ·rename_i a n b m
  simp only [Option.some.injEq, Prod.mk.injEq] at h
  obtain ⟨rfl, rfl⟩ := h
  obtain ⟨hn, hm⟩ : n ≤ 900000 ∧ m ≤ 900000 := hp
  have ha : a.natAbs < 2 ^ n := hf.1
  have hb : b.natAbs < 2 ^ m := hf.2.1
  have h1 : 2 ^ n ≤ 2 ^ max n m := Nat.pow_le_pow_right (by omega) (by omega)
  have h2 : 2 ^ m ≤ 2 ^ max n m := Nat.pow_le_pow_right (by omega) (by omega)
  have hM : max n m ≤ 900000 := by omega
  refine ⟨env [c_rmod, c_rabs] (a_rgcd a b (max n m)), ?_⟩
  rw [← vc_rgcd a b n m]
  have hg : Int.gcd (a.natAbs : Int) (b.natAbs : Int) = Int.gcd a b := by simp [Int.gcd]
  refine ⟨by omega, by omega, ⟨⟨a.natAbs, b.natAbs⟩, ⟨⟨hg, by show (a.natAbs : Int).natAbs < _; omega, by show (b.natAbs : Int).natAbs < _; omega⟩, by show (0 : Int) ≤ a.natAbs; omega, by show (0 : Int) ≤ b.natAbs; omega⟩, (by and_intros <;> first | exact True.intro | rfl | omega), ⟨rfl, .inl (by omega)⟩, ⟨rfl, .inl (by omega)⟩, ⟨rfl, .inl (Nat.le_refl _)⟩, True.intro⟩, ?_⟩
  rintro ⟨x, y⟩ ⟨⟨hg, hx, hy⟩, hx0, hy0⟩
  rw [len_pos_iff, Bool.cond_decide]
  split
  ·rename_i hne
   have hne : y ≠ 0 := hne
   have hl := natAbs_emod (a := x) hne
   have hy : y.natAbs < 2 ^ max n m := hy
   exact ⟨⟨hM, hM, hne⟩, ⟨y, x % y⟩, ⟨⟨by rw [← hg]; exact gcd_step x y, hy, by show (x % y).natAbs < _; omega⟩, hy0, Int.emod_nonneg _ hne⟩, ⟨(by and_intros <;> first | exact True.intro | rfl | omega), ⟨rfl, .inl (Nat.le_refl _)⟩, ⟨rfl, .inl (Nat.le_refl _)⟩, ⟨rfl, .inl (Nat.le_refl _)⟩, True.intro⟩, hl⟩
  ·rename_i hne
   have hz : y = 0 := by
    by_cases e : y = 0
    ·exact e
    ·exact absurd e hne
   subst hz
   have hg : Int.gcd x 0 = Int.gcd a b := hg
   have hx0 : 0 ≤ x := hx0
   rw [Int.gcd_zero_right] at hg
   exact ⟨by show x = _; omega, .inl (Nat.le_refl _)⟩
 ·simp at h
def c_rgcd : Ctr Tryz.prog := ⟨47, s_igcd, fun args w => Tryz.call47 args w, fn_ok_facts mix Tryz.func47 s_igcd p_rgcd⟩
end Go.Proofs.YtnfmjlhkknndhaaGreat
/-
 Contracts of functions: numbers of 64 bits; package modular.
-/
namespace Go.Proofs.YtnfmjlhkknndhaaGreat
open Go Go.RowKit
end Go.Proofs.YtnfmjlhkknndhaaGreat
/-
 Contracts of functions: the reference's Made.
-/
namespace Go.Proofs.YtnfmjlhkknndhaaGreat
open Go Go.RowKit
end Go.Proofs.YtnfmjlhkknndhaaGreat
/-
 Contracts of functions: the reference's Sign, Cmp, Div, Bezout, Inv.
-/
namespace Go.Proofs.YtnfmjlhkknndhaaGreat
open Go Go.RowKit
theorem vc_rsign (z : Int) (n : Nat) : (bif (↑(List.length (limbs (Int.natAbs z))) : Int) == 0 then (0 : Int) = sgn z else bif decide (z < 0) then (-1 : Int) = sgn z else (1 : Int) = sgn z) = evFn (env [] noAnn) Tryz.f38 [.big z n] (MRes.sat (.ret (.int .i64 (sgn z)))) := by kernel_rfl
theorem p_rsign : Good Tryz.f38 s_sign := by
 intro ms p r h hp
 unfold s_sign at h
 split at h
 ·rename_i z n
  simp only [Option.some.injEq, Prod.mk.injEq] at h
  obtain ⟨rfl, rfl⟩ := h
  refine ⟨env [] noAnn, ?_⟩
  rw [← vc_rsign z n]
  by_cases hz : z = 0
  ·subst hz
   have : ((((limbs (0 : Int).natAbs).length : Nat) : Int) == 0) = true := by rw [show (0 : Int).natAbs = 0 from rfl, limbs_zero]; rfl
   rw [this]; rfl
  ·have hne : (limbs z.natAbs).length ≠ 0 := fun e => by
    have := limbs_eq_nil.1 (List.eq_nil_of_length_eq_zero e)
    omega
   have : ((((limbs z.natAbs).length : Nat) : Int) == 0) = false := by simpa using hne
   rw [this, cond_false, Bool.cond_decide]
   unfold sgn
   rw [if_neg hz]
   split <;> rfl
 ·simp at h
def c_rsign : Ctr Tryz.prog := ⟨38, s_sign, fun args w => Tryz.call38 args w, fn_ok mix Tryz.func38 s_sign p_rsign⟩
theorem vc_rcmp (a b : Int) (n m : Nat) : (bif !decide (a < 0) == decide (b < 0) then bif decide (a < 0) then (-1 : Int) = icmp a b else (1 : Int) = icmp a b else bif decide (a < 0) then (limbs (Int.toNat (wv (limbs (Int.natAbs b)))) = limbs (Int.natAbs b) ∧ limbs (Int.toNat (wv (limbs (Int.natAbs a)))) = limbs (Int.natAbs a) ∧ List.length (limbs (Int.natAbs b)) ≤ 1099511627776 ∧ List.length (limbs (Int.natAbs a)) ≤ 1099511627776) ∧ icmp (wv (limbs (Int.natAbs b))) (wv (limbs (Int.natAbs a))) = icmp a b else (limbs (Int.toNat (wv (limbs (Int.natAbs a)))) = limbs (Int.natAbs a) ∧ limbs (Int.toNat (wv (limbs (Int.natAbs b)))) = limbs (Int.natAbs b) ∧ List.length (limbs (Int.natAbs a)) ≤ 1099511627776 ∧ List.length (limbs (Int.natAbs b)) ≤ 1099511627776) ∧ icmp (wv (limbs (Int.natAbs a))) (wv (limbs (Int.natAbs b))) = icmp a b) = evFn (env [c_rsize] noAnn) Tryz.f45 [.big a n, .big b m] (MRes.sat (.ret (.int .i64 (icmp a b)))) := by kernel_rfl
theorem p_rcmp : GoodF Tryz.f45 s_icmp := by
 intro ms p r h hp hf
 unfold s_icmp at h
 split at h
 ·rename_i a n b m
  simp only [Option.some.injEq, Prod.mk.injEq] at h
  obtain ⟨rfl, rfl⟩ := h
  obtain ⟨hn, hm⟩ : n ≤ 1000000 ∧ m ≤ 1000000 := hp
  have ha : a.natAbs < 2 ^ n := hf.1
  have hb : b.natAbs < 2 ^ m := hf.2.1
  have l1 := lim_len ha (by omega)
  have l2 := lim_len hb (by omega)
  refine ⟨env [c_rsize] noAnn, ?_⟩
  rw [← vc_rcmp a b n m, wvl, wvl, Int.toNat_natCast, Int.toNat_natCast]
  have e1 : ∀ {x y : Int}, (0 ≤ x → 0 ≤ y → icmp (x.natAbs : Int) (y.natAbs : Int) = icmp x y) ∧ (x < 0 → y < 0 → icmp (y.natAbs : Int) (x.natAbs : Int) = icmp x y) := by
   intro x y
   constructor
   ·intro h1 h2; unfold icmp; (repeat' split) <;> omega
   ·intro h1 h2; unfold icmp; (repeat' split) <;> omega
  rcases Int.lt_or_le a 0 with q1 | q1 <;> rcases Int.lt_or_le b 0 with q2 | q2
  ·rw [decide_eq_true q1, decide_eq_true q2]
   exact ⟨⟨rfl, rfl, by omega, by omega⟩, e1.2 q1 q2⟩
  ·rw [decide_eq_true q1, decide_eq_false (show ¬ b < 0 by omega)]
   show (-1 : Int) = icmp a b
   unfold icmp; (repeat' split) <;> omega
  ·rw [decide_eq_false (show ¬ a < 0 by omega), decide_eq_true q2]
   show (1 : Int) = icmp a b
   unfold icmp; (repeat' split) <;> omega
  ·rw [decide_eq_false (show ¬ a < 0 by omega), decide_eq_false (show ¬ b < 0 by omega)]
   exact ⟨⟨rfl, rfl, by omega, by omega⟩, e1.1 q1 q2⟩
 ·simp at h
def c_rcmp : Ctr Tryz.prog := ⟨45, s_icmp, fun args w => Tryz.call45 args w, fn_ok_facts mix Tryz.func45 s_icmp p_rcmp⟩
def s_rdiv : FSpec
 | [.big a n, .big b m] => some (some (n ≤ 900000 ∧ m ≤ 900000 ∧ b ≠ 0), .ret (.big (a / b) n))
 | _ => none
theorem vc_rdiv (a b : Int) (n m : Nat) : ((n ≤ 900000 ∧ m ≤ 900000 ∧ (b = 0 → False)) ∧ a / b = a / b ∧ (n ≤ n ∨ Int.natAbs (a / b) < 2 ^ n)) = evFn (env [c_rdivmod1] noAnn) Tryz.f60 [.big a n, .big b m] (MRes.sat (.ret (.big (a / b) n))) := by kernel_rfl
theorem p_rdiv : Good Tryz.f60 s_rdiv := by
 intro ms p r h hp
 unfold s_rdiv at h
 split at h
 ·rename_i a n b m
  simp only [Option.some.injEq, Prod.mk.injEq] at h
  obtain ⟨rfl, rfl⟩ := h
  obtain ⟨hn, hm, hb⟩ : n ≤ 900000 ∧ m ≤ 900000 ∧ b ≠ 0 := hp
  refine ⟨env [c_rdivmod1] noAnn, ?_⟩
  rw [← vc_rdiv a b n m]
  exact ⟨⟨hn, hm, hb⟩, rfl, .inl (Nat.le_refl _)⟩
 ·simp at h
def c_rdiv : Ctr Tryz.prog := ⟨60, s_rdiv, fun args w => Tryz.call60 args w, fn_ok mix Tryz.func60 s_rdiv p_rdiv⟩
end Go.Proofs.YtnfmjlhkknndhaaGreat
/-
 Plain facts: square roots rounded down, fractions in lowest terms.
-/
namespace Go.Proofs.YtnfmjlhkknndhaaGreat
open Go Go.RowKit
/-! ### The square root of a natural number, rounded down -/
def sqStep (r n : Nat) : Nat := cond (Nat.ble ((r + 1) * (r + 1)) n) (r + 1) r
def sqF : Nat → Nat → Nat
 | 0, _ => 0
 | f + 1, n => sqStep (2 * sqF f (n / 4)) n
def nsq (n : Nat) : Nat := sqF (bl n) n
theorem sqStep_spec {r n : Nat} (h1 : r * r ≤ n) (h2 : n < (r + 2) * (r + 2)) : sqStep r n * sqStep r n ≤ n ∧ n < (sqStep r n + 1) * (sqStep r n + 1) := by
 unfold sqStep
 cases h : Nat.ble ((r + 1) * (r + 1)) n with
 | true => exact ⟨Nat.le_of_ble_eq_true h, h2⟩
 | false =>
  refine ⟨h1, ?_⟩
  rcases Nat.lt_or_ge n ((r + 1) * (r + 1)) with q | q
  ·exact q
  ·rw [Nat.ble_eq_true_of_le q] at h; simp at h
theorem sqF_spec : ∀ f n : Nat, n < 4 ^ f → sqF f n * sqF f n ≤ n ∧ n < (sqF f n + 1) * (sqF f n + 1)
 | 0, n, h => by
  rw [Nat.pow_zero] at h
  obtain rfl : n = 0 := by omega
  exact ⟨Nat.le_refl _, by show 0 < 1; omega⟩
 | f + 1, n, h => by
  rw [Nat.pow_succ] at h
  obtain ⟨h1, h2⟩ := sqF_spec f (n / 4) (by omega)
  show sqStep (2 * sqF f (n / 4)) n * sqStep (2 * sqF f (n / 4)) n ≤ n ∧ n < (sqStep (2 * sqF f (n / 4)) n + 1) * (sqStep (2 * sqF f (n / 4)) n + 1)
  generalize sqF f (n / 4) = r at *
  refine sqStep_spec ?_ ?_
  ·have : 2 * r * (2 * r) = 4 * (r * r) := by grind
   omega
  ·have : (2 * r + 2) * (2 * r + 2) = 4 * ((r + 1) * (r + 1)) := by grind
   omega
theorem nsq_spec (n : Nat) : nsq n * nsq n ≤ n ∧ n < (nsq n + 1) * (nsq n + 1) := by
 refine sqF_spec _ _ (Nat.lt_of_lt_of_le (bl_lt n) ?_)
 exact Nat.pow_le_pow_left (by omega) _
theorem nsq_uniq {n s : Nat} (h1 : s * s ≤ n) (h2 : n < (s + 1) * (s + 1)) : nsq n = s := by
 obtain ⟨k1, k2⟩ := nsq_spec n
 generalize nsq n = r at *
 rcases Nat.lt_trichotomy r s with h | h | h
 ·have := Nat.mul_le_mul (show r + 1 ≤ s by omega) (show r + 1 ≤ s by omega); omega
 ·exact h
 ·have := Nat.mul_le_mul (show s + 1 ≤ r by omega) (show s + 1 ≤ r by omega); omega
theorem newton_ge {a s : Nat} (h0 : 0 < s) : a < ((s + a / s) / 2 + 1) * ((s + a / s) / 2 + 1) := by
 have h1 : a < s * (a / s + 1) := by
  have := Nat.div_add_mod a s
  have := Nat.mod_lt a h0
  rw [Nat.mul_add]; omega
 generalize a / s = q at *
 have h2 : s + q + 1 ≤ 2 * ((s + q) / 2 + 1) := by omega
 generalize (s + q) / 2 + 1 = u at *
 have h3 := Nat.mul_le_mul h2 h2
 have h4 : 4 * (s * (q + 1)) ≤ (s + q + 1) * (s + q + 1) := by
  rcases Nat.le_total s (q + 1) with h | h
  ·obtain ⟨d, hd⟩ := Nat.le.dest h
   rw [show s + q + 1 = s + (s + d) by omega, ← hd]
   have : (s + (s + d)) * (s + (s + d)) = 4 * (s * (s + d)) + d * d := by grind
   omega
  ·obtain ⟨d, hd⟩ := Nat.le.dest h
   rw [show s + q + 1 = (q + 1 + d) + (q + 1) by omega, ← hd]
   have : (q + 1 + d + (q + 1)) * (q + 1 + d + (q + 1)) = 4 * ((q + 1 + d) * (q + 1)) + d * d := by grind
   omega
 have h5 : 2 * u * (2 * u) = 4 * (u * u) := by grind
 omega
theorem newton_end {a s : Nat} (h : s ≤ (s + a / s) / 2) : s * s ≤ a := by
 have h1 : s ≤ a / s := by omega
 have := Nat.div_add_mod a s
 have := Nat.mul_le_mul_left s h1
 omega
/-! ### Fractions -/
end Go.Proofs.YtnfmjlhkknndhaaGreat
/-
 Contracts of functions: package integer: power, Pow, Root, Sqrt.
-/
namespace Go.Proofs.YtnfmjlhkknndhaaGreat
open Go Go.RowKit
/-! ### integer.power -/
def s_ipower : FSpec
 | [.big a n, .int .i64 k] => some (some (n ≤ 1000000 ∧ 0 ≤ k ∧ k ≤ 4096 ∧ bl a.natAbs * k.toNat ≤ 200000), .ret (.big (a ^ k.toNat) (bl a.natAbs * k.toNat + 1)))
 | _ => none
structure PwX where
 i : Nat
structure PwXI (K : Nat) (s : PwX) : Prop where
 i : s.i ≤ bl K
def pwE (K i : Nat) : Nat := if K / 2 ^ i = 0 then 2 ^ (i - 1) else 2 ^ i
def a_ipower (a : Int) (K : Nat) : Nat → MS → Option LoopAnn
 | 2, _ => some (.inv PwX (PwXI K) (fun s => ⟨23, [(1, .int .i64 (K / 2 ^ s.i : Nat)), (2, .bp 0 0), (4, .bp 1 0), (5, .bp 2 0)], [⟨false, .one (.big (a ^ pwE K s.i) (bl a.natAbs * pwE K s.i + 1))⟩, ⟨false, .one (.big 0 0)⟩, ⟨false, .one (.big (a ^ (K % 2 ^ s.i)) (bl a.natAbs * (K % 2 ^ s.i) + 1))⟩], 0⟩) (fun s => bl K - s.i))
 | _, _ => none
theorem vc_ipower (a : Int) (K n : Nat) : (Fit 1 ∧ (∃ i, PwXI K i ∧ ((↑K : Int) = (↑(K / 2 ^ PwX.i i) : Int) ∧ (0 : Nat) = 0 ∧ (0 : Nat) = 0 ∧ (0 : Nat) = 0 ∧ True) ∧ LeB a (a ^ pwE K (PwX.i i)) n (bl (Int.natAbs a) * pwE K (PwX.i i) + 1) ∧ LeB 0 0 0 0 ∧ LeB 1 (a ^ (K % 2 ^ PwX.i i)) 64 (bl (Int.natAbs a) * (K % 2 ^ PwX.i i) + 1) ∧ True) ∧ ∀ (i : PwX), PwXI K i → bif decide ((↑(K / 2 ^ PwX.i i) : Int) > 0) then ((2 : Int) = 0 → False) ∧ bif Int.tmod (↑(K / 2 ^ PwX.i i) : Int) (2 : Int) == 1 then (bl (Int.natAbs a) * (K % 2 ^ PwX.i i) + 1 ≤ 1000000 ∧ bl (Int.natAbs a) * pwE K (PwX.i i) + 1 ≤ 1000000) ∧ bif decide ((↑(K / 2 ^ PwX.i i) : Int) > 1) then (bl (Int.natAbs a) * pwE K (PwX.i i) + 1 ≤ 1000000 ∧ bl (Int.natAbs a) * pwE K (PwX.i i) + 1 ≤ 1000000) ∧ ((2 : Int) = 0 → False) ∧ ∃ j, PwXI K j ∧ ((IntKind.wrap IntKind.i64 (Int.tdiv (↑(K / 2 ^ PwX.i i) : Int) (2 : Int)) = (↑(K / 2 ^ PwX.i j) : Int) ∧ (0 : Nat) = 0 ∧ (0 : Nat) = 0 ∧ (0 : Nat) = 0 ∧ True) ∧ LeB (a ^ pwE K (PwX.i i) * a ^ pwE K (PwX.i i)) (a ^ pwE K (PwX.i j)) (bl (Int.natAbs a) * pwE K (PwX.i i) + 1 + (bl (Int.natAbs a) * pwE K (PwX.i i) + 1)) (bl (Int.natAbs a) * pwE K (PwX.i j) + 1) ∧ LeB 0 0 0 0 ∧ LeB (a ^ (K % 2 ^ PwX.i i) * a ^ pwE K (PwX.i i)) (a ^ (K % 2 ^ PwX.i j)) (bl (Int.natAbs a) * (K % 2 ^ PwX.i i) + 1 + (bl (Int.natAbs a) * pwE K (PwX.i i) + 1)) (bl (Int.natAbs a) * (K % 2 ^ PwX.i j) + 1) ∧ True) ∧ bl K - PwX.i j < bl K - PwX.i i else ((2 : Int) = 0 → False) ∧ ∃ j, PwXI K j ∧ ((IntKind.wrap IntKind.i64 (Int.tdiv (↑(K / 2 ^ PwX.i i) : Int) (2 : Int)) = (↑(K / 2 ^ PwX.i j) : Int) ∧ (0 : Nat) = 0 ∧ (0 : Nat) = 0 ∧ (0 : Nat) = 0 ∧ True) ∧ LeB (a ^ pwE K (PwX.i i)) (a ^ pwE K (PwX.i j)) (bl (Int.natAbs a) * pwE K (PwX.i i) + 1) (bl (Int.natAbs a) * pwE K (PwX.i j) + 1) ∧ LeB 0 0 0 0 ∧ LeB (a ^ (K % 2 ^ PwX.i i) * a ^ pwE K (PwX.i i)) (a ^ (K % 2 ^ PwX.i j)) (bl (Int.natAbs a) * (K % 2 ^ PwX.i i) + 1 + (bl (Int.natAbs a) * pwE K (PwX.i i) + 1)) (bl (Int.natAbs a) * (K % 2 ^ PwX.i j) + 1) ∧ True) ∧ bl K - PwX.i j < bl K - PwX.i i else bif decide ((↑(K / 2 ^ PwX.i i) : Int) > 1) then (bl (Int.natAbs a) * pwE K (PwX.i i) + 1 ≤ 1000000 ∧ bl (Int.natAbs a) * pwE K (PwX.i i) + 1 ≤ 1000000) ∧ ((2 : Int) = 0 → False) ∧ ∃ j, PwXI K j ∧ ((IntKind.wrap IntKind.i64 (Int.tdiv (↑(K / 2 ^ PwX.i i) : Int) (2 : Int)) = (↑(K / 2 ^ PwX.i j) : Int) ∧ (0 : Nat) = 0 ∧ (0 : Nat) = 0 ∧ (0 : Nat) = 0 ∧ True) ∧ LeB (a ^ pwE K (PwX.i i) * a ^ pwE K (PwX.i i)) (a ^ pwE K (PwX.i j)) (bl (Int.natAbs a) * pwE K (PwX.i i) + 1 + (bl (Int.natAbs a) * pwE K (PwX.i i) + 1)) (bl (Int.natAbs a) * pwE K (PwX.i j) + 1) ∧ LeB 0 0 0 0 ∧ LeB (a ^ (K % 2 ^ PwX.i i)) (a ^ (K % 2 ^ PwX.i j)) (bl (Int.natAbs a) * (K % 2 ^ PwX.i i) + 1) (bl (Int.natAbs a) * (K % 2 ^ PwX.i j) + 1) ∧ True) ∧ bl K - PwX.i j < bl K - PwX.i i else ((2 : Int) = 0 → False) ∧ ∃ j, PwXI K j ∧ ((IntKind.wrap IntKind.i64 (Int.tdiv (↑(K / 2 ^ PwX.i i) : Int) (2 : Int)) = (↑(K / 2 ^ PwX.i j) : Int) ∧ (0 : Nat) = 0 ∧ (0 : Nat) = 0 ∧ (0 : Nat) = 0 ∧ True) ∧ LeB (a ^ pwE K (PwX.i i)) (a ^ pwE K (PwX.i j)) (bl (Int.natAbs a) * pwE K (PwX.i i) + 1) (bl (Int.natAbs a) * pwE K (PwX.i j) + 1) ∧ LeB 0 0 0 0 ∧ LeB (a ^ (K % 2 ^ PwX.i i)) (a ^ (K % 2 ^ PwX.i j)) (bl (Int.natAbs a) * (K % 2 ^ PwX.i i) + 1) (bl (Int.natAbs a) * (K % 2 ^ PwX.i j) + 1) ∧ True) ∧ bl K - PwX.i j < bl K - PwX.i i else a ^ (K % 2 ^ PwX.i i) = a ^ K ∧ (bl (Int.natAbs a) * (K % 2 ^ PwX.i i) + 1 ≤ bl (Int.natAbs a) * K + 1 ∨ Int.natAbs (a ^ (K % 2 ^ PwX.i i)) < 2 ^ (bl (Int.natAbs a) * K + 1))) = evFn (env [c_iof, c_mul] (a_ipower a K)) Tryz.f132 [.big a n, .int .i64 K] (MRes.sat (.ret (.big (a ^ K) (bl a.natAbs * K + 1)))) := by kernel_rfl
theorem pow_bl (a : Int) (m : Nat) : (a ^ m).natAbs < 2 ^ (bl a.natAbs * m + 1) := by
 have h1 : a.natAbs ^ m ≤ (2 ^ bl a.natAbs) ^ m := Nat.pow_le_pow_left (Nat.le_of_lt (bl_lt _)) _
 rw [← Nat.pow_mul] at h1
 have h2 : 2 ^ (bl a.natAbs * m + 1) = 2 * 2 ^ (bl a.natAbs * m) := by rw [Nat.pow_succ, Nat.mul_comm]
 have h3 := Nat.two_pow_pos (bl a.natAbs * m)
 rw [Int.natAbs_pow]
 omega
theorem p_ipower : Good Tryz.f132 s_ipower := by
 intro ms p r h hp
 unfold s_ipower at h
 split at h
 ·rename_i a n k
  simp only [Option.some.injEq, Prod.mk.injEq] at h
  obtain ⟨rfl, rfl⟩ := h
  obtain ⟨h1, h2, h3, h4⟩ : n ≤ 1000000 ∧ 0 ≤ k ∧ k ≤ 4096 ∧ bl a.natAbs * k.toNat ≤ 200000 := hp
  obtain ⟨K, rfl⟩ := Int.eq_ofNat_of_zero_le h2
  refine ⟨env [c_iof, c_mul] (a_ipower a K), ?_⟩
  rw [show ((K : Int)).toNat = K from rfl] at h4 ⊢
  rw [← vc_ipower a K n]
  refine ⟨by omega, ⟨⟨0⟩, ⟨Nat.zero_le _⟩, ?_, ?_, ⟨rfl, .inl (Nat.le_refl _)⟩, ⟨?_, .inr ?_⟩, True.intro⟩, ?_⟩
  ·rw [show (2 : Nat) ^ PwX.i ⟨0⟩ = 1 from rfl, Nat.div_one]
   exact ⟨rfl, rfl, rfl, rfl, True.intro⟩
  ·have e : pwE K (PwX.i ⟨0⟩) = 1 := by unfold pwE; split <;> rfl
   rw [e, Int.pow_one]
   have := pow_bl a 1
   rw [Int.pow_one] at this
   exact ⟨rfl, .inr this⟩
  ·rw [show (2 : Nat) ^ PwX.i ⟨0⟩ = 1 from rfl, Nat.mod_one, Int.pow_zero]
  ·rw [show (2 : Nat) ^ PwX.i ⟨0⟩ = 1 from rfl, Nat.mod_one, Nat.mul_zero]; decide
  rintro ⟨i⟩ hI
  have hi : i ≤ bl K := hI.i
  clear hI
  dsimp only
  by_cases hc : K / 2 ^ i = 0
  ·rw [hc, decide_eq_false (by omega), cond_false]
   have hlt : K < 2 ^ i := by
    rcases Nat.lt_or_ge K (2 ^ i) with q | q
    ·exact q
    ·have := Nat.div_pos q (Nat.two_pow_pos i); omega
   rw [Nat.mod_eq_of_lt hlt]
   exact ⟨rfl, .inl (Nat.le_refl _)⟩
  ·rw [decide_eq_true (show ((K / 2 ^ i : Nat) : Int) > 0 from Int.ofNat_lt.2 (Nat.pos_of_ne_zero hc)), cond_true]
   have hge : 2 ^ i ≤ K := by
    rcases Nat.lt_or_ge K (2 ^ i) with q | q
    ·exact absurd (Nat.div_eq_of_lt q) hc
    ·exact q
   have hlt : i < bl K := by
    rcases Nat.lt_or_ge i (bl K) with q | q
    ·exact q
    ·have h5 := bl_lt K
     have h6 : 2 ^ bl K ≤ 2 ^ i := Nat.pow_le_pow_right (by omega) q
     omega
   have hs : K % 2 ^ (i + 1) = K % 2 ^ i + 2 ^ i * (K / 2 ^ i % 2) := Nat.mod_pow_succ
   have hm := Nat.mod_lt K (Nat.two_pow_pos i)
   have hp2 : 2 ^ (i + 1) = 2 ^ i + 2 ^ i := by rw [Nat.pow_succ, Nat.mul_two]
   have hd : K / 2 ^ (i + 1) = K / 2 ^ i / 2 := by rw [Nat.pow_succ, Nat.div_div_eq_div_mul]
   have hE : pwE K i = 2 ^ i := by unfold pwE; rw [if_neg hc]
   have b1 : bl a.natAbs * 2 ^ i ≤ 200000 := Nat.le_trans (Nat.mul_le_mul_left _ hge) h4
   have b2 : bl a.natAbs * (K % 2 ^ i) ≤ 200000 := Nat.le_trans (Nat.mul_le_mul_left _ (Nat.mod_le _ _)) h4
   have e1 : Int.tdiv ((K / 2 ^ i : Nat) : Int) 2 = ((K / 2 ^ i / 2 : Nat) : Int) := rfl
   have hK3 : K / 2 ^ i / 2 ≤ 4096 := Nat.le_trans (Nat.div_le_self _ _) (Nat.le_trans (Nat.div_le_self _ _) (by omega))
   have e2 : IntKind.wrap IntKind.i64 ((K / 2 ^ i / 2 : Nat) : Int) = ((K / 2 ^ (i + 1) : Nat) : Int) := by
    rw [hd]
    clear hd hs hm
    generalize K / 2 ^ i / 2 = m at *
    exact i64w (by omega) (by omega)
   have e3 : Int.tmod ((K / 2 ^ i : Nat) : Int) 2 = ((K / 2 ^ i % 2 : Nat) : Int) := rfl
   have hout : (K / 2 ^ i % 2 = 0 → a ^ (K % 2 ^ i) = a ^ (K % 2 ^ (i + 1))) ∧ (K / 2 ^ i % 2 = 1 → a ^ (K % 2 ^ i) * a ^ 2 ^ i = a ^ (K % 2 ^ (i + 1))) := by
    refine ⟨fun h => ?_, fun h => ?_⟩
    ·rw [hs, h, Nat.mul_zero, Nat.add_zero]
    ·rw [hs, h, Nat.mul_one, Int.pow_add]
   have hsq : (1 < K / 2 ^ i → a ^ 2 ^ i * a ^ 2 ^ i = a ^ pwE K (i + 1)) ∧ (¬ 1 < K / 2 ^ i → a ^ 2 ^ i = a ^ pwE K (i + 1)) := by
    unfold pwE
    refine ⟨fun h => ?_, fun h => ?_⟩
    ·rw [hd, if_neg (by clear hs hm hd hc e1 e2 e3 hK3 hout; generalize K / 2 ^ i = Q at *; omega), ← Int.pow_add, hp2]
    ·rw [hd, if_pos (by clear hs hm hd hc e1 e2 e3 hK3 hout; generalize K / 2 ^ i = Q at *; omega), Nat.add_sub_cancel]
   have d1 : decide (((K / 2 ^ i : Nat) : Int) > 1) = decide (1 < K / 2 ^ i) := decide_eq_decide.2 (by generalize K / 2 ^ i = Q; omega)
   have szP := pow_bl a (pwE K (i + 1))
   have szO := pow_bl a (K % 2 ^ (i + 1))
   rw [e1, e2, e3, hE, d1]
   refine ⟨fun h => by omega, ?_⟩
   have fin : ∀ x y z w, x = a ^ pwE K (i + 1) → y = a ^ (K % 2 ^ (i + 1)) → ∃ j, PwXI K j ∧ ((((K / 2 ^ (i + 1) : Nat) : Int) = ((K / 2 ^ PwX.i j : Nat) : Int) ∧ (0 : Nat) = 0 ∧ (0 : Nat) = 0 ∧ (0 : Nat) = 0 ∧ True) ∧
     (x = a ^ pwE K (PwX.i j) ∧ (z ≤ bl a.natAbs * pwE K (PwX.i j) + 1 ∨ x.natAbs < 2 ^ (bl a.natAbs * pwE K (PwX.i j) + 1))) ∧ ((0 : Int) = 0 ∧ ((0 : Nat) ≤ 0 ∨ Int.natAbs 0 < 2 ^ 0)) ∧
     (y = a ^ (K % 2 ^ PwX.i j) ∧ (w ≤ bl a.natAbs * (K % 2 ^ PwX.i j) + 1 ∨ y.natAbs < 2 ^ (bl a.natAbs * (K % 2 ^ PwX.i j) + 1))) ∧ True) ∧ bl K - PwX.i j < bl K - i := by
    rintro x y z w rfl rfl
    exact ⟨⟨i + 1⟩, ⟨hlt⟩, ⟨⟨rfl, rfl, rfl, rfl, True.intro⟩, ⟨rfl, .inr szP⟩, ⟨rfl, .inl (Nat.le_refl _)⟩, ⟨rfl, .inr szO⟩, True.intro⟩, by show bl K - (i + 1) < bl K - i; omega⟩
   have z : (2 : Int) = 0 → False := fun h => by omega
   by_cases h : K / 2 ^ i % 2 = 1
   ·have hm2 := hout.2 h
    rw [h, show (((1 : Nat) : Int) == 1) = true from rfl, cond_true]
    refine ⟨⟨by omega, by omega⟩, ?_⟩
    by_cases hq : 1 < K / 2 ^ i
    ·rw [decide_eq_true hq, cond_true]
     exact ⟨⟨by omega, by omega⟩, z, fin _ _ _ _ (hsq.1 hq) hm2⟩
    ·rw [decide_eq_false hq, cond_false]
     exact ⟨z, fin _ _ _ _ (hsq.2 hq) hm2⟩
   ·have h0 : K / 2 ^ i % 2 = 0 := by generalize K / 2 ^ i = Q at *; omega
    have hm2 := hout.1 h0
    rw [h0, show (((0 : Nat) : Int) == 1) = false from rfl, cond_false]
    by_cases hq : 1 < K / 2 ^ i
    ·rw [decide_eq_true hq, cond_true]
     exact ⟨⟨by omega, by omega⟩, z, fin _ _ _ _ (hsq.1 hq) hm2⟩
    ·rw [decide_eq_false hq, cond_false]
     exact ⟨z, fin _ _ _ _ (hsq.2 hq) hm2⟩
 ·simp at h
def c_ipower : Ctr Tryz.prog := ⟨132, s_ipower, fun args w => Tryz.call132 args w, fn_ok mix Tryz.func132 s_ipower p_ipower⟩
/-! ### Pow of 2 -/
/-! ### Root, for square roots; Sqrt -/
def s_iroot2 : FSpec
 | [.big a n, .int .i64 k] => some (some (n ≤ 100000 ∧ k = 2), .br (decide (a < 0)) (.ret (.tup [.big 0 0, .int .i64 1])) (.ret (.tup [.big (nsq a.natAbs) n, .int .i64 0])))
 | _ => none
structure NwX where
 s : Nat
structure NwI (A n : Nat) (x : NwX) : Prop where
 s0 : 0 < x.s
 up : A < (x.s + 1) * (x.s + 1)
 lt : x.s < 2 ^ (n + 1)
def a_iroot2 (a : Int) (n : Nat) : Nat → MS → Option LoopAnn
 | 9, _ => some (.inv NwX (NwI a.natAbs n) (fun x => ⟨73, [(1, .int .i64 2), (2, .bp 0 0), (4, .bp 1 0), (7, .bp 3 0)], [⟨false, .one (.big a n)⟩, ⟨false, .one (.big 0 0)⟩, ⟨true, .arr .u32 [1]⟩, ⟨false, .one (.big x.s (n + 1))⟩], 0⟩) (fun x => x.s))
 | _, _ => none
theorem vc_iroot2 (a : Int) (n : Nat) : (n ≤ 1000000 ∧ bif decide (a < 0) then bif decide (a < 0) then LeB 0 0 0 0 ∧ (1 : Int) = 1 ∧ True else LeB 0 (↑(nsq (Int.natAbs a)) : Int) 0 n ∧ (1 : Int) = 0 ∧ True else bif (↑(bl (Int.natAbs a)) : Int) == 0 then bif decide (a < 0) then LeB a 0 n 0 ∧ (0 : Int) = 1 ∧ True else LeB a (↑(nsq (Int.natAbs a)) : Int) n n ∧ (0 : Int) = 0 ∧ True else bif decide ((2 : Int) ≥ (↑(bl (Int.natAbs a)) : Int)) then Fit 1 ∧ bif decide (a < 0) then LeB 1 0 64 0 ∧ (0 : Int) = 1 ∧ True else LeB 1 (↑(nsq (Int.natAbs a)) : Int) 64 n ∧ (0 : Int) = 0 ∧ True else ((2 : Int) = 0 → False) ∧ ((0 : Nat) + 1 ≤ List.length [(1 : Int)] ∧ (∀ (x : Int), x ∈ List.take (1 : Nat) (List.drop (0 : Nat) [(1 : Int)]) → (0 : Int) ≤ x ∧ x < 4294967296) ∧ (0 : Int) ≤ IntKind.wrap IntKind.i64 (Int.tdiv (IntKind.wrap IntKind.i64 (IntKind.wrap IntKind.i64 ((↑(bl (Int.natAbs a)) : Int) + 2) - 1)) (2 : Int)) ∧ IntKind.wrap IntKind.i64 (Int.tdiv (IntKind.wrap IntKind.i64 (IntKind.wrap IntKind.i64 ((↑(bl (Int.natAbs a)) : Int) + 2) - 1)) (2 : Int)) ≤ 1000000000 ∧ List.length (List.take (1 : Nat) (List.drop (0 : Nat) [(1 : Int)])) ≤ 1000000000) ∧ ((∀ (x : Int), x ∈ limbs (Int.toNat (wv (List.take (1 : Nat) (List.drop (0 : Nat) [(1 : Int)])) * 2 ^ Int.toNat (IntKind.wrap IntKind.i64 (Int.tdiv (IntKind.wrap IntKind.i64 (IntKind.wrap IntKind.i64 ((↑(bl (Int.natAbs a)) : Int) + 2) - 1)) (2 : Int))))) → (0 : Int) ≤ x ∧ x < 4294967296) ∧ List.length (limbs (Int.toNat (wv (List.take (1 : Nat) (List.drop (0 : Nat) [(1 : Int)])) * 2 ^ Int.toNat (IntKind.wrap IntKind.i64 (Int.tdiv (IntKind.wrap IntKind.i64 (IntKind.wrap IntKind.i64 ((↑(bl (Int.natAbs a)) : Int) + 2) - 1)) (2 : Int)))))) ≤ 1000000000) ∧ (∃ i, NwI (Int.natAbs a) n i ∧ ((2 : Int) = 2 ∧ (0 : Nat) = 0 ∧ (0 : Nat) = 0 ∧ (0 : Nat) = 0 ∧ True) ∧ LeB a a n n ∧ LeB 0 0 0 0 ∧ [(1 : Int)] = [(1 : Int)] ∧ LeB (sg false (wv (limbs (Int.toNat (wv (List.take (1 : Nat) (List.drop (0 : Nat) [(1 : Int)])) * 2 ^ Int.toNat (IntKind.wrap IntKind.i64 (Int.tdiv (IntKind.wrap IntKind.i64 (IntKind.wrap IntKind.i64 ((↑(bl (Int.natAbs a)) : Int) + 2) - 1)) (2 : Int)))))))) (↑(NwX.s i) : Int) ((32 : Nat) * List.length (limbs (Int.toNat (wv (List.take (1 : Nat) (List.drop (0 : Nat) [(1 : Int)])) * 2 ^ Int.toNat (IntKind.wrap IntKind.i64 (Int.tdiv (IntKind.wrap IntKind.i64 (IntKind.wrap IntKind.i64 ((↑(bl (Int.natAbs a)) : Int) + 2) - 1)) (2 : Int))))))) (n + 1) ∧ True) ∧ ∀ (i : NwX), NwI (Int.natAbs a) n i → (n + 1 ≤ 1000000 ∧ (0 : Int) ≤ IntKind.wrap IntKind.i64 ((2 : Int) - 1) ∧ IntKind.wrap IntKind.i64 ((2 : Int) - 1) ≤ 4096 ∧ bl (Int.natAbs (↑(NwX.s i) : Int)) * Int.toNat (IntKind.wrap IntKind.i64 ((2 : Int) - 1)) ≤ 200000) ∧ (n ≤ 900000 ∧ bl (Int.natAbs (↑(NwX.s i) : Int)) * Int.toNat (IntKind.wrap IntKind.i64 ((2 : Int) - 1)) + 1 ≤ 900000 ∧ ((↑(NwX.s i) : Int) ^ Int.toNat (IntKind.wrap IntKind.i64 ((2 : Int) - 1)) = 0 → False)) ∧ Fit (IntKind.wrap IntKind.i64 ((2 : Int) - 1)) ∧ (n + 1 ≤ 1000000 ∧ (64 : Nat) ≤ 1000000) ∧ (n + 1 + 64 ≤ 1000000 ∧ n ≤ 1000000) ∧ Fit 2 ∧ (max (n + 1 + 64) n + 1 ≤ 900000 ∧ (64 : Nat) ≤ 900000 ∧ ((2 : Int) = 0 → False)) ∧ (max (n + 1 + 64) n + 1 ≤ 1000000 ∧ n + 1 ≤ 1000000) ∧ bif decide (icmp (((↑(NwX.s i) : Int) * IntKind.wrap IntKind.i64 ((2 : Int) - 1) + a / (↑(NwX.s i) : Int) ^ Int.toNat (IntKind.wrap IntKind.i64 ((2 : Int) - 1))) / 2) (↑(NwX.s i) : Int) ≥ 0) then bif decide (a < 0) then LeB (↑(NwX.s i) : Int) 0 (n + 1) 0 ∧ (0 : Int) = 1 ∧ True else LeB (↑(NwX.s i) : Int) (↑(nsq (Int.natAbs a)) : Int) (n + 1) n ∧ (0 : Int) = 0 ∧ True else ∃ j, NwI (Int.natAbs a) n j ∧ (((2 : Int) = 2 ∧ (0 : Nat) = 0 ∧ (0 : Nat) = 0 ∧ (0 : Nat) = 0 ∧ True) ∧ LeB a a n n ∧ LeB 0 0 0 0 ∧ [(1 : Int)] = [(1 : Int)] ∧ LeB (((↑(NwX.s i) : Int) * IntKind.wrap IntKind.i64 ((2 : Int) - 1) + a / (↑(NwX.s i) : Int) ^ Int.toNat (IntKind.wrap IntKind.i64 ((2 : Int) - 1))) / 2) (↑(NwX.s j) : Int) (max (n + 1 + 64) n + 1) (n + 1) ∧ True) ∧ NwX.s j < NwX.s i) = evFn (env [c_bits, c_nshl, c_of, c_ipower, c_divmod1, c_iof, c_mul, c_iadd, c_icmp] (a_iroot2 a n)) Tryz.f115 [.big a n, .int .i64 2] (MRes.sat (.br (decide (a < 0)) (.ret (.tup [.big 0 0, .int .i64 1])) (.ret (.tup [.big (nsq a.natAbs) n, .int .i64 0])))) := by kernel_rfl
theorem p_iroot2 : GoodF Tryz.f115 s_iroot2 := by
 intro ms p r h hp hf
 unfold s_iroot2 at h
 split at h
 ·rename_i a n k
  simp only [Option.some.injEq, Prod.mk.injEq] at h
  obtain ⟨rfl, rfl⟩ := h
  obtain ⟨h1, rfl⟩ : n ≤ 100000 ∧ k = 2 := hp
  have ha : a.natAbs < 2 ^ n := hf.1
  refine ⟨env [c_bits, c_nshl, c_of, c_ipower, c_divmod1, c_iof, c_mul, c_iadd, c_icmp] (a_iroot2 a n), ?_⟩
  rw [← vc_iroot2 a n]
  refine ⟨by omega, ?_⟩
  by_cases h0 : a < 0
  ·rw [decide_eq_true h0]
   exact ⟨⟨rfl, .inl (Nat.le_refl _)⟩, rfl, True.intro⟩
  rw [decide_eq_false h0]
  obtain ⟨A, rfl⟩ := Int.eq_ofNat_of_zero_le (show 0 ≤ a by omega)
  rw [Int.natAbs_natCast] at ha
  rw [Int.natAbs_natCast, cond_false]
  have hbl : bl A ≤ n := bl_le_of ha
  by_cases hz : bl A = 0
  ·have hA : A = 0 := by have := bl_lt A; rw [hz] at this; omega
   rw [show (((bl A : Nat) : Int) == 0) = true by rw [hz]; rfl, cond_true]
   have e : nsq A = A := nsq_uniq (by rw [hA]; omega) (by rw [hA]; omega)
   rw [e]
   exact ⟨⟨rfl, .inl (Nat.le_refl _)⟩, rfl, True.intro⟩
  rw [show (((bl A : Nat) : Int) == 0) = false by simpa using hz, cond_false]
  have hA0 : 0 < A := by
   rcases Nat.eq_zero_or_pos A with q | q
   ·rw [q] at hz; exact absurd (by decide) hz
   ·exact q
  have hnsq : nsq A ≤ A := by
   have h1 := (nsq_spec A).1
   rcases Nat.eq_zero_or_pos (nsq A) with q | q
   ·omega
   ·have := Nat.le_mul_of_pos_left (nsq A) q; omega
  by_cases h2 : bl A ≤ 2
  ·rw [decide_eq_true (by omega), cond_true]
   have h4 : A < 2 ^ 2 := Nat.lt_of_lt_of_le (bl_lt A) (Nat.pow_le_pow_right (by omega) h2)
   have e : nsq A = 1 := nsq_uniq (by omega) (by omega)
   rw [e]
   exact ⟨by omega, ⟨rfl, .inr (by show 1 < 2 ^ n; rw [e] at hnsq; omega)⟩, rfl, True.intro⟩
  rw [decide_eq_false (by omega), cond_false]
  have w1 : IntKind.wrap IntKind.i64 ((bl A : Int) + 2) = (bl A : Int) + 2 := i64w (by omega) (by omega)
  have w2 : IntKind.wrap IntKind.i64 ((bl A : Int) + 2 - 1) = ((bl A + 1 : Nat) : Int) := by rw [i64w (by omega) (by omega)]; omega
  have w3 : Int.tdiv ((bl A + 1 : Nat) : Int) 2 = (((bl A + 1) / 2 : Nat) : Int) := rfl
  have w4 : IntKind.wrap IntKind.i64 (((bl A + 1) / 2 : Nat) : Int) = (((bl A + 1) / 2 : Nat) : Int) := i64w (by omega) (by omega)
  have w5 : IntKind.wrap IntKind.i64 ((2 : Int) - 1) = 1 := rfl
  have w6 : wv (List.take 1 (List.drop 0 [(1 : Int)])) = 1 := by decide
  rw [w1, w2, w3, w4, w5, w6, Int.one_mul, show (((bl A + 1) / 2 : Nat) : Int).toNat = (bl A + 1) / 2 from rfl, show (1 : Int).toNat = 1 from rfl]
  generalize hm : (bl A + 1) / 2 = M
  have e2 : ((2 : Int) ^ M).toNat = 2 ^ M := by
   have e : (2 : Int) ^ M = ((2 ^ M : Nat) : Int) := by rw [Int.natCast_pow]; rfl
   rw [e, Int.toNat_natCast]
  have e3 : wv (limbs (2 ^ M)) = ((2 ^ M : Nat) : Int) := wv_limbs _
  rw [e2, e3]
  have hML : M ≤ n := by omega
  have hMu : A < 2 ^ M * 2 ^ M := by
   rw [← Nat.pow_add]
   exact Nat.lt_of_lt_of_le (bl_lt A) (Nat.pow_le_pow_right (by omega) (by omega))
  have hM0 := Nat.two_pow_pos M
  have hMn : 2 ^ M < 2 ^ (n + 1) := Nat.pow_lt_pow_right (by omega) (by omega)
  have hlen : (limbs (2 ^ M)).length ≤ 1000000000 := by
   have := limbs_len_le (n := 2 ^ M) (k := n) (by rw [show (4294967296 : Nat) = 2 ^ 32 from rfl, ← Nat.pow_mul]; exact Nat.pow_lt_pow_right (by omega) (by omega))
   omega
  refine ⟨fun h => by omega, ⟨by decide, fun x hx => ?_, by omega, by omega, by decide⟩, ⟨fun x hx => limbs_wd _ x hx, hlen⟩, ⟨⟨2 ^ M⟩, ⟨hM0, ?_, hMn⟩, ⟨rfl, rfl, rfl, rfl, True.intro⟩, ⟨rfl, .inl (Nat.le_refl _)⟩, ⟨rfl, .inl (Nat.le_refl _)⟩, rfl, ⟨rfl, .inr hMn⟩, True.intro⟩, ?_⟩
  ·have : x = 1 := by simpa using hx
   omega
  ·show A < (2 ^ M + 1) * (2 ^ M + 1)
   have := Nat.mul_le_mul (show 2 ^ M ≤ 2 ^ M + 1 by omega) (show 2 ^ M ≤ 2 ^ M + 1 by omega)
   omega
  rintro ⟨S⟩ hI
  have i1 : 0 < S := hI.s0
  have i2 : A < (S + 1) * (S + 1) := hI.up
  have i3 : S < 2 ^ (n + 1) := hI.lt
  clear hI
  dsimp only
  have hb : bl S ≤ n + 1 := bl_le_of i3
  rw [Int.natAbs_natCast, Int.pow_one, Int.mul_one, Nat.mul_one]
  have q1 : ((A : Int) / (S : Int)) = ((A / S : Nat) : Int) := rfl
  have q2 : ((S : Int) + ((A / S : Nat) : Int)) / 2 = (((S + A / S) / 2 : Nat) : Int) := rfl
  rw [q1, q2]
  have hge := newton_ge (a := A) i1
  have hend := newton_end (a := A) (s := S)
  generalize (S + A / S) / 2 = T at *
  refine ⟨⟨by omega, by omega, by omega, by omega⟩, ⟨by omega, by omega, fun h => by omega⟩, by omega, ⟨by omega, by omega⟩, ⟨by omega, by omega⟩, by omega, ⟨by omega, by omega, fun h => by omega⟩, ⟨by omega, by omega⟩, ?_⟩
  have ic : decide (icmp (T : Int) (S : Int) ≥ 0) = decide (S ≤ T) := by
   refine decide_eq_decide.2 ?_
   unfold icmp
   split <;> (try split) <;> omega
  rw [ic]
  by_cases hc : S ≤ T
  ·rw [decide_eq_true hc, cond_true]
   have e : nsq A = S := nsq_uniq (hend hc) i2
   rw [e] at hnsq ⊢
   exact ⟨⟨rfl, .inr (by show S < 2 ^ n; omega)⟩, rfl, True.intro⟩
  ·rw [decide_eq_false hc, cond_false]
   have hT : 0 < T := by
    rcases Nat.eq_zero_or_pos T with q | q
    ·rw [q] at hge; omega
    ·exact q
   have hTn : T < 2 ^ (n + 1) := by omega
   exact ⟨⟨T⟩, ⟨hT, hge, hTn⟩, ⟨⟨rfl, rfl, rfl, rfl, True.intro⟩, ⟨rfl, .inl (Nat.le_refl _)⟩, ⟨rfl, .inl (Nat.le_refl _)⟩, rfl, ⟨rfl, .inr hTn⟩, True.intro⟩, by show T < S; omega⟩
 ·simp at h
def c_iroot2 : Ctr Tryz.prog := ⟨115, s_iroot2, fun args w => Tryz.call115 args w, fn_ok_facts mix Tryz.func115 s_iroot2 p_iroot2⟩
def s_isqrt : FSpec
 | [.big a n] => some (some (n ≤ 100000), .br (decide (a < 0)) (.ret (.tup [.big 0 0, .big 0 0, .int .i64 1])) (.ret (.tup [.big (nsq a.natAbs) n, .big (a - nsq a.natAbs * nsq a.natAbs) (n + n + 1), .int .i64 0])))
 | _ => none
theorem vc_isqrt (a : Int) (n : Nat) : ((n ≤ 100000 ∧ (2 : Int) = 2) ∧ bif decide (a < 0) then bif decide (a < 0) then LeB 0 0 0 0 ∧ LeB 0 0 0 0 ∧ (1 : Int) = 1 ∧ True else LeB 0 (↑(nsq (Int.natAbs a)) : Int) 0 n ∧ LeB 0 (a - (↑(nsq (Int.natAbs a)) : Int) * (↑(nsq (Int.natAbs a)) : Int)) 0 (n + n + 1) ∧ (1 : Int) = 0 ∧ True else (n ≤ 1000000 ∧ n ≤ 1000000) ∧ (n ≤ 1000000 ∧ n + n ≤ 1000000) ∧ bif decide (a < 0) then LeB (↑(nsq (Int.natAbs a)) : Int) 0 n 0 ∧ LeB (a - (↑(nsq (Int.natAbs a)) : Int) * (↑(nsq (Int.natAbs a)) : Int)) 0 (max n (n + n) + 1) 0 ∧ (0 : Int) = 1 ∧ True else LeB (↑(nsq (Int.natAbs a)) : Int) (↑(nsq (Int.natAbs a)) : Int) n n ∧ LeB (a - (↑(nsq (Int.natAbs a)) : Int) * (↑(nsq (Int.natAbs a)) : Int)) (a - (↑(nsq (Int.natAbs a)) : Int) * (↑(nsq (Int.natAbs a)) : Int)) (max n (n + n) + 1) (n + n + 1) ∧ (0 : Int) = 0 ∧ True) = evFn (env [c_iroot2, c_mul, c_isub] noAnn) Tryz.f92 [.big a n] (MRes.sat (.br (decide (a < 0)) (.ret (.tup [.big 0 0, .big 0 0, .int .i64 1])) (.ret (.tup [.big (nsq a.natAbs) n, .big (a - nsq a.natAbs * nsq a.natAbs) (n + n + 1), .int .i64 0])))) := by kernel_rfl
theorem p_isqrt : Good Tryz.f92 s_isqrt := by
 intro ms p r h hp
 unfold s_isqrt at h
 split at h
 ·rename_i a n
  simp only [Option.some.injEq, Prod.mk.injEq] at h
  obtain ⟨rfl, rfl⟩ := h
  have h1 : n ≤ 100000 := hp
  refine ⟨env [c_iroot2, c_mul, c_isub] noAnn, ?_⟩
  rw [← vc_isqrt a n]
  by_cases h0 : a < 0
  ·rw [decide_eq_true h0]
   and_intros <;> first | exact True.intro | rfl | exact .inl (Nat.le_refl _) | omega
  ·rw [decide_eq_false h0]
   and_intros <;> first | exact True.intro | rfl | exact .inl (Nat.le_refl _) | omega | exact .inl (by omega)
 ·simp at h
def c_isqrt : Ctr Tryz.prog := ⟨92, s_isqrt, fun args w => Tryz.call92 args w, fn_ok mix Tryz.func92 s_isqrt p_isqrt⟩
end Go.Proofs.YtnfmjlhkknndhaaGreat
/-
 Plain facts: reduction of indefinite forms: the neighbor of a form; reduced forms stay reduced.
-/
namespace Go.Proofs.YtnfmjlhkknndhaaGreat
open Go Go.RowKit
structure Fm where
 A : Int
 B : Int
 C : Int
def Fm.disc (f : Fm) : Int := f.B * f.B - 4 * f.A * f.C
structure Dis (D s : Int) : Prop where
 pos : 0 < s
 lo : s * s < D
 hi : D < (s + 1) * (s + 1)
def rhoB (s B C : Int) : Int :=
 if s < (C.natAbs : Int) then (if (C.natAbs : Int) < -B % (2 * C.natAbs) then -B % (2 * C.natAbs) - 2 * C.natAbs else -B % (2 * C.natAbs))
 else s - (s + B) % (2 * C.natAbs)
def rhoK (s : Int) (f : Fm) : Int := (rhoB s f.B f.C + f.B) / (2 * f.C)
def rho (s : Int) (f : Fm) : Fm := ⟨f.C, rhoB s f.B f.C, f.A - f.B * rhoK s f + f.C * (rhoK s f * rhoK s f)⟩
structure RedF (s : Int) (f : Fm) : Prop where
 b0 : 0 < f.B
 b1 : f.B ≤ s
 lo : s < 2 * f.A.natAbs + f.B
 hi : 2 * f.A.natAbs - f.B ≤ s
theorem rhoB_dvd' {s B C : Int} : (2 * (C.natAbs : Int)) ∣ rhoB s B C + B := by
 unfold rhoB
 generalize (C.natAbs : Int) = c at *
 have h1 := Int.emod_add_mul_ediv (-B) (2 * c)
 have h2 := Int.emod_add_mul_ediv (s + B) (2 * c)
 split
 ·split
  ·exact ⟨-(-B / (2 * c)) - 1, by rw [Int.mul_sub, Int.mul_neg]; omega⟩
  ·exact ⟨-(-B / (2 * c)), by rw [Int.mul_neg]; omega⟩
 ·exact ⟨(s + B) / (2 * c), by omega⟩
theorem rhoB_dvd {s B C : Int} : (2 * C) ∣ rhoB s B C + B := by
 obtain ⟨q, hq⟩ := rhoB_dvd' (s := s) (B := B) (C := C)
 rcases Int.natAbs_eq C with h | h
 ·exact ⟨q, by rw [hq, ← h]⟩
 ·refine ⟨-q, ?_⟩
  rw [hq]
  have e : (C.natAbs : Int) = -C := by omega
  rw [e]; grind
theorem rhoB_range {s B C : Int} (hC : C ≠ 0) : (s < C.natAbs → -(C.natAbs : Int) < rhoB s B C ∧ rhoB s B C ≤ C.natAbs) ∧ ((C.natAbs : Int) ≤ s → s - 2 * C.natAbs < rhoB s B C ∧ rhoB s B C ≤ s) := by
 have hc : (0 : Int) < C.natAbs := by omega
 unfold rhoB
 generalize (C.natAbs : Int) = c at *
 have h1 := Int.emod_nonneg (-B) (show 2 * c ≠ 0 by omega)
 have h2 := Int.emod_lt_of_pos (-B) (show 0 < 2 * c by omega)
 have h3 := Int.emod_nonneg (s + B) (show 2 * c ≠ 0 by omega)
 have h4 := Int.emod_lt_of_pos (s + B) (show 0 < 2 * c by omega)
 generalize -B % (2 * c) = m at *
 generalize (s + B) % (2 * c) = t at *
 refine ⟨fun h => ?_, fun h => ?_⟩
 ·rw [if_pos h]
  split <;> omega
 ·rw [if_neg (by omega)]
  omega
theorem rho_disc {D s : Int} {f : Fm} (h : f.disc = D) (hC : f.C ≠ 0) : (rho s f).disc = D := by
 obtain ⟨q, hq⟩ := rhoB_dvd (s := s) (B := f.B) (C := f.C)
 have hk : rhoK s f = q := by unfold rhoK; rw [hq]; exact Int.mul_ediv_cancel_left _ (by omega)
 have hb : rhoB s f.B f.C = 2 * f.C * q - f.B := by omega
 unfold Fm.disc rho at *
 rw [hk, hb]
 dsimp only
 rw [← h]
 grind
theorem red_sign {D s : Int} (hd : Dis D s) {f : Fm} (h : f.disc = D) (hr : RedF s f) : f.A * f.C < 0 := by
 have h1 : f.B * f.B ≤ s * s := Int.mul_le_mul hr.b1 hr.b1 (Int.le_of_lt hr.b0) (by have := hd.pos; omega)
 have h2 := hd.lo
 unfold Fm.disc at h
 rw [Int.mul_assoc] at h
 omega
theorem red_abs {D s : Int} (hd : Dis D s) {f : Fm} (h : f.disc = D) (hr : RedF s f) : 4 * ((f.A.natAbs : Int) * f.C.natAbs) = D - f.B * f.B := by
 have h1 := red_sign hd h hr
 have e : ((f.A.natAbs : Int) * f.C.natAbs) = ((f.A * f.C).natAbs : Int) := by rw [Int.natAbs_mul, Int.natCast_mul]
 unfold Fm.disc at h
 rw [Int.mul_assoc] at h
 rw [e]
 omega
theorem red_mirror {D s : Int} (hd : Dis D s) {f : Fm} (h : f.disc = D) (hr : RedF s f) : s < 2 * f.C.natAbs + f.B ∧ 2 * f.C.natAbs - f.B ≤ s := by
 have h1 := red_abs hd h hr
 obtain ⟨b0, b1, lo, hi⟩ := hr
 have hlo := hd.lo
 have hhi := hd.hi
 generalize (f.A.natAbs : Int) = a at *
 generalize hcc : (f.C.natAbs : Int) = c at *
 have hc0 : 0 ≤ c := by omega
 generalize f.B = b at *
 constructor
 ·rcases Int.lt_or_le s (2 * c + b) with q | q
  ·exact q
  ·exfalso
   have h2 : 2 * a * (2 * c) ≤ (s + b) * (s - b) := Int.mul_le_mul (by omega) (by omega) (by omega) (by omega)
   have h3 : 2 * a * (2 * c) = 4 * (a * c) := by grind
   have h4 : (s + b) * (s - b) = s * s - b * b := by grind
   omega
 ·rcases Int.lt_or_le s (2 * c - b) with q | q
  ·exfalso
   have h2 : (s + 1 - b) * (s + 1 + b) ≤ 2 * a * (2 * c) := Int.mul_le_mul (by omega) (by omega) (by omega) (by omega)
   have h3 : 2 * a * (2 * c) = 4 * (a * c) := by grind
   have h4 : (s + 1 - b) * (s + 1 + b) = (s + 1) * (s + 1) - b * b := by grind
   omega
  ·omega
theorem rho_red {D s : Int} (hd : Dis D s) {f : Fm} (h : f.disc = D) (hr : RedF s f) : RedF s (rho s f) := by
 have hs := red_sign hd h hr
 have hC : f.C ≠ 0 := fun e => by rw [e, Int.mul_zero] at hs; omega
 obtain ⟨m1, m2⟩ := red_mirror hd h hr
 have hcs : (f.C.natAbs : Int) ≤ s := by have := hr.b1; omega
 obtain ⟨r1, r2⟩ := (rhoB_range (s := s) (B := f.B) hC).2 hcs
 obtain ⟨t, ht⟩ := rhoB_dvd' (s := s) (B := f.B) (C := f.C)
 obtain ⟨b0, b1, _, _⟩ := hr
 have hc : (0 : Int) < f.C.natAbs := by omega
 have key : 2 * (f.C.natAbs : Int) - f.B ≤ rhoB s f.B f.C := by
  rcases Int.lt_or_le 0 t with q | q
  ·have : 2 * (f.C.natAbs : Int) * 1 ≤ 2 * (f.C.natAbs : Int) * t := Int.mul_le_mul_of_nonneg_left (by omega) (by omega)
   omega
  ·have : 2 * (f.C.natAbs : Int) * t ≤ 2 * (f.C.natAbs : Int) * 0 := Int.mul_le_mul_of_nonneg_left q (by omega)
   omega
 refine ⟨?_, r2, ?_, ?_⟩
 ·show 0 < rhoB s f.B f.C
  omega
 ·show s < 2 * (f.C.natAbs : Int) + rhoB s f.B f.C
  omega
 ·show 2 * (f.C.natAbs : Int) - rhoB s f.B f.C ≤ s
  omega
theorem rho_alt {D s : Int} (hd : Dis D s) {f : Fm} (h : f.disc = D) (hr : RedF s f) : f.A * (rho s f).A < 0 := red_sign hd h hr
theorem rho_back {D s : Int} (hd : Dis D s) {f : Fm} (h : f.disc = D) (hr : RedF s f) : f.B = s - (s + (rho s f).B) % (2 * (rho s f).A.natAbs) := by
 have hs := red_sign hd h hr
 have hC : f.C ≠ 0 := fun e => by rw [e, Int.mul_zero] at hs; omega
 obtain ⟨m1, m2⟩ := red_mirror hd h hr
 obtain ⟨t, ht⟩ := rhoB_dvd' (s := s) (B := f.B) (C := f.C)
 obtain ⟨b0, b1, _, _⟩ := hr
 have hc : (0 : Int) < f.C.natAbs := by omega
 show f.B = s - (s + rhoB s f.B f.C) % (2 * (f.C.natAbs : Int))
 rw [show s + rhoB s f.B f.C = (s - f.B) + 2 * (f.C.natAbs : Int) * t by omega, Int.add_mul_emod_self_left, Int.emod_eq_of_lt (by omega) (by omega)]
 omega
theorem rho_inj {D s : Int} (hd : Dis D s) {f g : Fm} (hf : f.disc = D) (hg : g.disc = D) (rf : RedF s f) (rg : RedF s g) (h : rho s f = rho s g) : f = g := by
 have b1 := rho_back hd hf rf
 have b2 := rho_back hd hg rg
 rw [h, ← b2] at b1
 have c1 : f.C = g.C := congrArg Fm.A h
 have hs := red_sign hd hf rf
 have hC : f.C ≠ 0 := fun e => by rw [e, Int.mul_zero] at hs; omega
 have a1 : f.A = g.A := by
  unfold Fm.disc at hf hg
  rw [b1] at hf
  rw [← c1] at hg
  have e : f.A * f.C = g.A * f.C := by
   have e1 : 4 * f.A * f.C = 4 * (f.A * f.C) := Int.mul_assoc ..
   have e2 : 4 * g.A * f.C = 4 * (g.A * f.C) := Int.mul_assoc ..
   omega
  exact Int.eq_of_mul_eq_mul_right hC e
 cases f; cases g
 simp only at a1 b1 c1
 rw [a1, b1, c1]
end Go.Proofs.YtnfmjlhkknndhaaGreat
/-
 Plain facts: reduction of indefinite forms ends; a cycle closes.
-/
namespace Go.Proofs.YtnfmjlhkknndhaaGreat
open Go Go.RowKit
theorem disc_ne {D s : Int} (hd : Dis D s) {f : Fm} (h : f.disc = D) : f.A ≠ 0 ∧ f.C ≠ 0 := by
 have key : f.A * f.C ≠ 0 := fun e => by
  unfold Fm.disc at h
  rw [Int.mul_assoc, e] at h
  have hs := hd.pos
  have e2 : (f.B.natAbs : Int) * f.B.natAbs = f.B * f.B := by rw [← Int.natCast_mul]; exact Int.natAbs_mul_self' f.B
  have lo := hd.lo
  have hi := hd.hi
  have hb : 0 ≤ (f.B.natAbs : Int) := by omega
  generalize (f.B.natAbs : Int) = b at *
  rcases Int.lt_or_le s b with q | q
  ·have := Int.mul_le_mul (show s + 1 ≤ b by omega) (show s + 1 ≤ b by omega) (by omega) hb
   omega
  ·have := Int.mul_le_mul q q hb (by omega)
   omega
 exact ⟨fun e => key (by rw [e, Int.zero_mul]), fun e => key (by rw [e, Int.mul_zero])⟩
theorem rho_shrink {D s : Int} (hd : Dis D s) {f : Fm} (h : f.disc = D) (hc : s < f.C.natAbs) : (rho s f).C.natAbs < f.C.natAbs := by
 have hC := (disc_ne hd h).2
 have h1 := rho_disc (s := s) h hC
 obtain ⟨r1, r2⟩ := (rhoB_range (s := s) (B := f.B) hC).1 hc
 have hs := hd.pos
 have hhi := hd.hi
 have hlo := hd.lo
 unfold Fm.disc at h1
 have e1 : (rho s f).B = rhoB s f.B f.C := rfl
 have e2 : (rho s f).A = f.C := rfl
 rw [e1, e2, Int.mul_assoc] at h1
 generalize (rho s f).C = x at *
 generalize rhoB s f.B f.C = r at *
 have e3 : (f.C.natAbs : Int) * x.natAbs = ((f.C * x).natAbs : Int) := by rw [Int.natAbs_mul, Int.natCast_mul]
 have hr : r * r ≤ (f.C.natAbs : Int) * f.C.natAbs := by
  have e : (r.natAbs : Int) * r.natAbs = r * r := by rw [← Int.natCast_mul]; exact Int.natAbs_mul_self' r
  rw [← e]
  exact Int.mul_le_mul (by omega) (by omega) (by omega) (by omega)
 have hr0 : 0 ≤ r * r := by
  have e : (r.natAbs : Int) * r.natAbs = r * r := by rw [← Int.natCast_mul]; exact Int.natAbs_mul_self' r
  rw [← e]
  exact Int.mul_nonneg (by omega) (by omega)
 have hD : (s + 1) * (s + 1) ≤ (f.C.natAbs : Int) * f.C.natAbs := Int.mul_le_mul (by omega) (by omega) (by omega) (by omega)
 have hx : 4 * ((f.C.natAbs : Int) * x.natAbs) ≤ (f.C.natAbs : Int) * f.C.natAbs := by
  rw [e3]
  have hss := Int.mul_nonneg (Int.le_of_lt hs) (Int.le_of_lt hs)
  omega
 rcases Nat.lt_or_ge x.natAbs f.C.natAbs with q | q
 ·exact q
 ·exfalso
  have h5 : (f.C.natAbs : Int) * f.C.natAbs ≤ f.C.natAbs * x.natAbs := Int.mul_le_mul_of_nonneg_left (by omega) (by omega)
  have h6 : 0 < (f.C.natAbs : Int) * f.C.natAbs := Int.mul_pos (by omega) (by omega)
  omega
theorem half_red {D s : Int} (hd : Dis D s) {f : Fm} (h : f.disc = D) (hA : (f.A.natAbs : Int) ≤ s) (hb0 : s - 2 * f.A.natAbs < f.B) (hb1 : f.B ≤ s) : RedF s (rho s f) := by
 obtain ⟨hA0, hC⟩ := disc_ne hd h
 have hs := hd.pos
 have hhi := hd.hi
 have hlo := hd.lo
 have hbb : f.B * f.B ≤ s * s := by
  have e : (f.B.natAbs : Int) * f.B.natAbs = f.B * f.B := by rw [← Int.natCast_mul]; exact Int.natAbs_mul_self' f.B
  rw [← e]
  exact Int.mul_le_mul (by omega) (by omega) (by omega) (by omega)
 have e1 : ((f.A.natAbs : Int) * f.C.natAbs) = ((f.A * f.C).natAbs : Int) := by rw [Int.natAbs_mul, Int.natCast_mul]
 have hp : 4 * ((f.A.natAbs : Int) * f.C.natAbs) = D - f.B * f.B := by
  unfold Fm.disc at h
  rw [Int.mul_assoc] at h
  rw [e1]
  omega
 have m2 : 2 * (f.C.natAbs : Int) - f.B ≤ s := by
  rcases Int.lt_or_le s (2 * (f.C.natAbs : Int) - f.B) with q | q
  ·exfalso
   have h2 : (s + 1 - f.B) * (s + 1 + f.B) ≤ 2 * f.A.natAbs * (2 * f.C.natAbs) := Int.mul_le_mul (by omega) (by omega) (by omega) (by omega)
   have h3 : 2 * (f.A.natAbs : Int) * (2 * f.C.natAbs) = 4 * (f.A.natAbs * f.C.natAbs) := by grind
   have h4 : (s + 1 - f.B) * (s + 1 + f.B) = (s + 1) * (s + 1) - f.B * f.B := by grind
   omega
  ·omega
 have hcs : (f.C.natAbs : Int) ≤ s := by omega
 obtain ⟨r1, r2⟩ := (rhoB_range (s := s) (B := f.B) hC).2 hcs
 obtain ⟨t, ht⟩ := rhoB_dvd' (s := s) (B := f.B) (C := f.C)
 have hc : (0 : Int) < f.C.natAbs := by omega
 have key : 2 * (f.C.natAbs : Int) - f.B ≤ rhoB s f.B f.C := by
  rcases Int.lt_or_le 0 t with q | q
  ·have : 2 * (f.C.natAbs : Int) * 1 ≤ 2 * (f.C.natAbs : Int) * t := Int.mul_le_mul_of_nonneg_left (by omega) (by omega)
   omega
  ·have : 2 * (f.C.natAbs : Int) * t ≤ 2 * (f.C.natAbs : Int) * 0 := Int.mul_le_mul_of_nonneg_left q (by omega)
   omega
 refine ⟨?_, r2, ?_, ?_⟩
 ·show 0 < rhoB s f.B f.C
  omega
 ·show s < 2 * (f.C.natAbs : Int) + rhoB s f.B f.C
  omega
 ·show 2 * (f.C.natAbs : Int) - rhoB s f.B f.C ≤ s
  omega
def rhoN (s : Int) : Nat → Fm → Fm
 | 0, f => f
 | n + 1, f => rhoN s n (rho s f)
theorem red_ends {D s : Int} (hd : Dis D s) : ∀ (k : Nat) (f : Fm), f.disc = D → f.C.natAbs ≤ k → ∃ n, n ≤ k + 2 ∧ RedF s (rhoN s n f)
 | k, f, h, hk => by
  obtain ⟨_, hC⟩ := disc_ne hd h
  by_cases hc : s < f.C.natAbs
  ·have h1 := rho_shrink hd h hc
   match k, hk with
   | 0, hk => omega
   | k + 1, hk =>
    obtain ⟨n, h2, h3⟩ := red_ends hd k (rho s f) (rho_disc h hC) (by omega)
    exact ⟨n + 1, by omega, h3⟩
  ·have hcs : (f.C.natAbs : Int) ≤ s := by omega
   obtain ⟨r1, r2⟩ := (rhoB_range (s := s) (B := f.B) hC).2 hcs
   exact ⟨2, by omega, half_red hd (rho_disc h hC) hcs r1 r2⟩
end Go.Proofs.YtnfmjlhkknndhaaGreat
/-
 Plain facts: a cycle closes; it has an even number of forms.
-/
namespace Go.Proofs.YtnfmjlhkknndhaaGreat
open Go Go.RowKit
theorem nodup_leX : ∀ (m : Nat) (l : List Nat), l.Nodup → (∀ x ∈ l, x < m) → l.length ≤ m
 | 0, l, _, hl => by
  cases l with
  | nil => exact Nat.le_refl _
  | cons x r => exact absurd (hl x (List.mem_cons_self ..)) (by omega)
 | m + 1, l, hn, hl => by
  by_cases hm : m ∈ l
  ·have hp := List.perm_cons_erase hm
   have hn' := List.nodup_cons.1 (hp.nodup_iff.1 hn)
   have := nodup_leX m (l.erase m) hn'.2 fun x hx => by
    have h1 := hl x (hp.mem_iff.2 (List.mem_cons_of_mem _ hx))
    have h2 : x ≠ m := fun e => hn'.1 (e ▸ hx)
    omega
   have h3 := hp.length_eq
   rw [List.length_cons] at h3
   omega
  ·have := nodup_leX m l hn fun x hx => by
    have h1 := hl x hx
    have h2 : x ≠ m := fun e => hm (e ▸ hx)
    omega
   omega
theorem rhoN_add (s : Int) (m : Nat) : ∀ (n : Nat) (f : Fm), rhoN s (m + n) f = rhoN s m (rhoN s n f)
 | 0, _ => rfl
 | n + 1, f => rhoN_add s m n (rho s f)
structure RD (D s : Int) (f : Fm) : Prop where
 h : f.disc = D
 r : RedF s f
theorem RD.rho {D s : Int} (hd : Dis D s) {f : Fm} (h : RD D s f) : RD D s (rho s f) := ⟨rho_disc h.h (disc_ne hd h.h).2, rho_red hd h.h h.r⟩
theorem RD.rhoN {D s : Int} (hd : Dis D s) : ∀ (n : Nat) {f : Fm}, RD D s f → RD D s (rhoN s n f)
 | 0, _, h => h
 | n + 1, _, h => RD.rhoN hd n (h.rho hd)
theorem RD.inj {D s : Int} (hd : Dis D s) : ∀ (n : Nat) {f g : Fm}, RD D s f → RD D s g → Go.Proofs.YtnfmjlhkknndhaaGreat.rhoN s n f = Go.Proofs.YtnfmjlhkknndhaaGreat.rhoN s n g → f = g
 | 0, _, _, _, _, h => h
 | n + 1, _, _, hf, hg, h => rho_inj hd hf.h hg.h hf.r hg.r (RD.inj hd n (hf.rho hd) (hg.rho hd) h)
def cd (s : Int) (f : Fm) : Nat := (f.A + s).toNat * (s.toNat + 1) + f.B.toNat
theorem RD.abs {D s : Int} {f : Fm} (h : RD D s f) : (f.A.natAbs : Int) ≤ s := by
 have := h.r.hi
 have := h.r.b1
 omega
theorem cd_lt {D s : Int} (hd : Dis D s) {f : Fm} (h : RD D s f) : cd s f < (2 * s.toNat + 1) * (s.toNat + 1) := by
 have h1 := h.abs
 have h2 := h.r.b1
 have h3 := hd.pos
 unfold cd
 have h4 : (f.A + s).toNat * (s.toNat + 1) ≤ 2 * s.toNat * (s.toNat + 1) := Nat.mul_le_mul_right _ (by omega)
 rw [Nat.add_mul, Nat.one_mul]
 omega
theorem cd_inj {D s : Int} (hd : Dis D s) {f g : Fm} (hf : RD D s f) (hg : RD D s g) (h : cd s f = cd s g) : f = g := by
 have a1 := hf.abs
 have a2 := hg.abs
 have b1 := hf.r.b1
 have b2 := hg.r.b1
 have c1 := hf.r.b0
 have c2 := hg.r.b0
 have hs := hd.pos
 unfold cd at h
 have key : ∀ x y u v m : Nat, y < m → v < m → x * m + y = u * m + v → x = u ∧ y = v := by
  intro x y u v m hy hv he
  have d1 : (x * m + y) / m = x := by rw [Nat.mul_comm, Nat.mul_add_div (by omega), Nat.div_eq_of_lt hy, Nat.add_zero]
  have d2 : (u * m + v) / m = u := by rw [Nat.mul_comm, Nat.mul_add_div (by omega), Nat.div_eq_of_lt hv, Nat.add_zero]
  have e : x = u := by rw [← d1, he, d2]
  subst e
  exact ⟨rfl, by omega⟩
 obtain ⟨k1, k2⟩ := key _ _ _ _ _ (by omega) (by omega) h
 have eA : f.A = g.A := by omega
 have eB : f.B = g.B := by omega
 have hA := (disc_ne hd hf.h).1
 have eC : f.C = g.C := by
  have hf' := hf.h
  have hg' := hg.h
  unfold Fm.disc at hf' hg'
  rw [← eA, ← eB] at hg'
  rw [Int.mul_assoc] at hf' hg'
  exact Int.eq_of_mul_eq_mul_left hA (by omega)
 cases f; cases g
 simp only at eA eB eC
 rw [eA, eB, eC]
theorem closes {D s : Int} (hd : Dis D s) {f : Fm} (hf : RD D s f) : ∃ n, 1 ≤ n ∧ n ≤ (2 * s.toNat + 1) * (s.toNat + 1) ∧ rhoN s n f = f := by
 rcases Classical.em (∃ n, 1 ≤ n ∧ n ≤ (2 * s.toNat + 1) * (s.toNat + 1) ∧ rhoN s n f = f) with h | h
 ·exact h
 exfalso
 have := nodup_leX ((2 * s.toNat + 1) * (s.toNat + 1)) ((List.range ((2 * s.toNat + 1) * (s.toNat + 1) + 1)).map fun i => cd s (rhoN s i f)) (by
  unfold List.Nodup
  rw [List.pairwise_map]
  refine (List.pairwise_lt_range (n := (2 * s.toNat + 1) * (s.toNat + 1) + 1)).imp_of_mem fun {i j} hi hj hij e => ?_
  have hj := List.mem_range.1 hj
  have e1 := cd_inj hd (hf.rhoN hd i) (hf.rhoN hd j) e
  have e2 : rhoN s j f = rhoN s i (rhoN s (j - i) f) := by rw [← rhoN_add]; congr 1; omega
  rw [e2] at e1
  have e3 := RD.inj hd i hf (hf.rhoN hd (j - i)) e1
  exact h ⟨j - i, by omega, by omega, e3.symm⟩) fun x hx => by
   obtain ⟨i, _, rfl⟩ := List.mem_map.1 hx
   exact cd_lt hd (hf.rhoN hd i)
 rw [List.length_map, List.length_range] at this
 omega
theorem neg_iff {a b : Int} : a * b < 0 ↔ (a < 0 ∧ 0 < b) ∨ (0 < a ∧ b < 0) := by
 constructor
 ·intro h
  rcases Int.lt_trichotomy a 0 with ha | ha | ha <;> rcases Int.lt_trichotomy b 0 with hb | hb | hb
  ·have := Int.mul_pos_of_neg_of_neg ha hb; omega
  ·subst hb; omega
  ·exact .inl ⟨ha, hb⟩
  ·subst ha; omega
  ·subst ha; omega
  ·subst ha; omega
  ·exact .inr ⟨ha, hb⟩
  ·subst hb; omega
  ·have := Int.mul_pos ha hb; omega
 ·rintro (⟨ha, hb⟩ | ⟨ha, hb⟩)
  ·exact Int.mul_neg_of_neg_of_pos ha hb
  ·exact Int.mul_neg_of_pos_of_neg ha hb
end Go.Proofs.YtnfmjlhkknndhaaGreat
/-
 Plain facts: reduced forms by the signs of four values.
-/
namespace Go.Proofs.YtnfmjlhkknndhaaGreat
open Go Go.RowKit
theorem sq_le_of {x s : Int} (hs : 0 ≤ s) (h : x * x < (s + 1) * (s + 1)) : x ≤ s := by
 rcases Int.lt_or_le s x with q | q
 ·have := Int.mul_le_mul (show s + 1 ≤ x by omega) (show s + 1 ≤ x by omega) (by omega) (by omega)
  omega
 ·exact q
theorem sq_lt_of {x s : Int} (hx : 0 ≤ x) (hs : 0 ≤ s) (h : s * s < x * x) : s < x := by
 rcases Int.lt_or_le s x with q | q
 ·exact q
 ·have := Int.mul_le_mul q q hx hs
  omega
theorem red_iff {D s : Int} (hd : Dis D s) {f : Fm} (h : f.disc = D) : RedF s f ↔ f.A * f.C < 0 ∧ 0 < f.A + f.B + f.C ∧ f.A - f.B + f.C < 0 := by
 constructor
 ·intro hr
  have h1 := red_sign hd h hr
  obtain ⟨m1, m2⟩ := red_mirror hd h hr
  have h2 := hr.lo
  have h3 := hr.hi
  refine ⟨h1, ?_, ?_⟩ <;> rcases neg_iff.1 h1 with ⟨q1, q2⟩ | ⟨q1, q2⟩ <;> omega
 ·rintro ⟨h1, h2, h3⟩
  have hs := hd.pos
  have hlo := hd.lo
  have hhi := hd.hi
  unfold Fm.disc at h
  have e1 : (2 * f.A + f.B) * (2 * f.A + f.B) = D + 4 * (f.A * (f.A + f.B + f.C)) := by rw [← h]; grind
  have e2 : (2 * f.A - f.B) * (2 * f.A - f.B) = D + 4 * (f.A * (f.A - f.B + f.C)) := by rw [← h]; grind
  have e3 : f.B * f.B = D + 4 * (f.A * f.C) := by rw [← h]; grind
  have b0 : 0 < f.B := by omega
  have b1 : f.B ≤ s := sq_le_of (by omega) (by omega)
  rcases neg_iff.1 h1 with ⟨q1, q2⟩ | ⟨q1, q2⟩
  ·have p1 := Int.mul_neg_of_neg_of_pos q1 h2
   have p2 := Int.mul_pos_of_neg_of_neg q1 h3
   have e1' : (-(2 * f.A) - f.B) * (-(2 * f.A) - f.B) = (2 * f.A + f.B) * (2 * f.A + f.B) := by grind
   have e2' : (-(2 * f.A) + f.B) * (-(2 * f.A) + f.B) = (2 * f.A - f.B) * (2 * f.A - f.B) := by grind
   have k1 : -(2 * f.A) - f.B ≤ s := sq_le_of (by omega) (by rw [e1', e1]; omega)
   have k2 : s < -(2 * f.A) + f.B := sq_lt_of (by omega) (by omega) (by rw [e2', e2]; omega)
   exact ⟨b0, b1, by omega, by omega⟩
  ·have p1 := Int.mul_pos q1 h2
   have p2 := Int.mul_neg_of_pos_of_neg q1 h3
   have k1 : s < 2 * f.A + f.B := sq_lt_of (by omega) (by omega) (by rw [e1]; omega)
   have k2 : 2 * f.A - f.B ≤ s := sq_le_of (by omega) (by rw [e2]; omega)
   exact ⟨b0, b1, by omega, by omega⟩
end Go.Proofs.YtnfmjlhkknndhaaGreat
/-
 Plain facts: forms under matrices.
-/
namespace Go.Proofs.YtnfmjlhkknndhaaGreat
open Go Go.RowKit
structure Mx where
 a : Int
 b : Int
 c : Int
 d : Int
def Mx.det (m : Mx) : Int := m.a * m.d - m.b * m.c
def Mx.mul (m n : Mx) : Mx := ⟨m.a * n.a + m.b * n.c, m.a * n.b + m.b * n.d, m.c * n.a + m.d * n.c, m.c * n.b + m.d * n.d⟩
def Mx.one : Mx := ⟨1, 0, 0, 1⟩
def Mx.inv (m : Mx) : Mx := ⟨m.d, -m.b, -m.c, m.a⟩
def Fm.val (f : Fm) (x y : Int) : Int := f.A * (x * x) + f.B * (x * y) + f.C * (y * y)
def Fm.app (f : Fm) (m : Mx) : Fm := ⟨f.val m.a m.c, 2 * (f.A * (m.a * m.b) + f.C * (m.c * m.d)) + f.B * (m.a * m.d + m.b * m.c), f.val m.b m.d⟩
abbrev FLe (f g : Fm) (n m : Nat) : Prop := LeB f.A g.A n m ∧ LeB f.B g.B n m ∧ LeB f.C g.C n m ∧ True
abbrev MLe (f g : Mx) (n m : Nat) : Prop := LeB f.a g.a n m ∧ LeB f.b g.b n m ∧ LeB f.c g.c n m ∧ LeB f.d g.d n m ∧ True
def primF (f : Fm) : Bool := decide (Int.gcd (Int.gcd f.A f.B : Int) f.C = 1)
theorem Fm.ext' {f g : Fm} (h1 : f.A = g.A) (h2 : f.B = g.B) (h3 : f.C = g.C) : f = g := by
 cases f; cases g
 simp only at h1 h2 h3
 rw [h1, h2, h3]
theorem app_one (f : Fm) : f.app Mx.one = f := by
 apply Fm.ext' <;> simp [Fm.app, Fm.val, Mx.one]
theorem app_mul (f : Fm) (m n : Mx) : (f.app m).app n = f.app (m.mul n) := by
 apply Fm.ext' <;> simp only [Fm.app, Fm.val, Mx.mul] <;> grind
theorem det_mul (m n : Mx) : (m.mul n).det = m.det * n.det := by
 simp only [Mx.det, Mx.mul]; grind
theorem det_inv (m : Mx) : m.inv.det = m.det := by
 simp only [Mx.det, Mx.inv]; grind
theorem app_disc (f : Fm) (m : Mx) : (f.app m).disc = m.det * m.det * f.disc := by
 simp only [Fm.disc, Fm.app, Fm.val, Mx.det]; grind
theorem mul_inv {m : Mx} (h : m.det = 1) : m.mul m.inv = Mx.one := by
 unfold Mx.det at h
 simp only [Mx.mul, Mx.inv, Mx.one, Mx.mk.injEq]
 refine ⟨?_, ?_, ?_, ?_⟩ <;> grind
theorem app_inv {f : Fm} {m : Mx} (h : m.det = 1) : (f.app m).app m.inv = f := by rw [app_mul, mul_inv h, app_one]
def stepM (s : Int) (f : Fm) : Mx := ⟨0, -1, 1, rhoK s f⟩
theorem step_det (s : Int) (f : Fm) : (stepM s f).det = 1 := by simp [stepM, Mx.det]
theorem rho_app {s : Int} {f : Fm} (hC : f.C ≠ 0) : f.app (stepM s f) = rho s f := by
 obtain ⟨q, hq⟩ := rhoB_dvd (s := s) (B := f.B) (C := f.C)
 have hk : rhoK s f = q := by unfold rhoK; rw [hq]; exact Int.mul_ediv_cancel_left _ (by omega)
 have hb : rhoB s f.B f.C = 2 * f.C * q - f.B := by omega
 apply Fm.ext' <;> simp only [Fm.app, Fm.val, stepM, rho, hk, hb] <;> grind
def walkM (s : Int) : Nat → Fm → Mx
 | 0, _ => Mx.one
 | n + 1, f => (stepM s f).mul (walkM s n (rho s f))
theorem walk_det (s : Int) : ∀ (n : Nat) (f : Fm), (walkM s n f).det = 1
 | 0, _ => by simp [walkM, Mx.one, Mx.det]
 | n + 1, f => by
  show ((stepM s f).mul (walkM s n (rho s f))).det = 1
  rw [det_mul, step_det, walk_det s n, Int.mul_one]
theorem walk_app {D s : Int} (hd : Dis D s) : ∀ (n : Nat) {f : Fm}, f.disc = D → f.app (walkM s n f) = rhoN s n f
 | 0, f, _ => app_one f
 | n + 1, f, h => by
  show f.app ((stepM s f).mul (walkM s n (rho s f))) = rhoN s n (rho s f)
  have hC := (disc_ne hd h).2
  rw [← app_mul, rho_app hC, walk_app hd n (rho_disc h hC)]
end Go.Proofs.YtnfmjlhkknndhaaGreat
/-
 Plain facts: which numbers are discriminants; how great neighbors and their matrices are; how soon reduction ends.
-/
namespace Go.Proofs.YtnfmjlhkknndhaaGreat
open Go Go.RowKit
theorem sq_abs (r : Int) : (r.natAbs : Int) * r.natAbs = r * r := by rw [← Int.natCast_mul]; exact Int.natAbs_mul_self' r
def knE (d : Int) : Int := if d < 0 ∨ d - nsq d.natAbs * nsq d.natAbs = 0 ∨ 1 < d % 4 then 5 else if 65536 < d then 2 else 0
def knS (d : Int) : Int := if knE d = 0 then nsq d.natAbs else 0
theorem kn_dis {d : Int} (h : knE d = 0) : Dis d (knS d) ∧ knS d ≤ 255 ∧ d ≤ 65536 ∧ d % 4 ≤ 1 := by
 unfold knS
 rw [if_pos h]
 unfold knE at h
 split at h
 ·simp at h
 ·rename_i h1
  split at h
  ·simp at h
  ·rename_i h2
   obtain ⟨k1, k2⟩ := nsq_spec d.natAbs
   have e : (d.natAbs : Int) = d := by omega
   generalize nsq d.natAbs = r at *
   have k1' : (r : Int) * r ≤ d := by rw [← e]; exact_mod_cast k1
   have k2' : d < ((r : Int) + 1) * (r + 1) := by rw [← e]; exact_mod_cast k2
   have hne : d - r * r ≠ 0 := fun q => h1 (.inr (.inl q))
   have h3 : d % 4 ≤ 1 := by omega
   have hr : (r : Int) ≤ 255 := by
    rcases Int.lt_or_le 255 (r : Int) with q | q
    ·exfalso
     have := Int.mul_le_mul (show (256 : Int) ≤ r by omega) (show (256 : Int) ≤ r by omega) (by omega) (by omega)
     omega
    ·exact q
   have hr0 : (0 : Int) < r := by
    rcases Nat.eq_zero_or_pos r with q | q
    ·subst q; simp at k1' k2' hne; omega
    ·omega
   exact ⟨⟨hr0, by omega, k2'⟩, hr, by omega, h3⟩
theorem knS_ok {d : Int} (h : knE d = 0) : knS d = nsq d.natAbs := if_pos h
def redQ (f : Fm) : Bool := decide (knE f.disc = 0) && (decide (0 < f.B) && (decide (f.B ≤ knS f.disc) && (decide (knS f.disc < 2 * f.A.natAbs + f.B) && decide (2 * f.A.natAbs - f.B ≤ knS f.disc))))
theorem redQ_iff {f : Fm} : redQ f = true ↔ knE f.disc = 0 ∧ RedF (knS f.disc) f := by
 unfold redQ
 simp only [Bool.and_eq_true, decide_eq_true_eq]
 exact ⟨fun ⟨a, b, c, d, e⟩ => ⟨a, b, c, d, e⟩, fun ⟨a, ⟨b, c, d, e⟩⟩ => ⟨a, b, c, d, e⟩⟩
theorem redQ_RD {f : Fm} : redQ f = true ↔ knE f.disc = 0 ∧ RD f.disc (knS f.disc) f :=
 redQ_iff.trans ⟨fun h => ⟨h.1, rfl, h.2⟩, fun h => ⟨h.1, h.2.r⟩⟩
theorem rho_half {D s : Int} (hd : Dis D s) {f : Fm} (h : f.disc = D) (hc : s < f.C.natAbs) : 2 * (rho s f).C.natAbs ≤ f.C.natAbs := by
 have hC := (disc_ne hd h).2
 have h1 := rho_disc (s := s) h hC
 obtain ⟨r1, r2⟩ := (rhoB_range (s := s) (B := f.B) hC).1 hc
 have hs := hd.pos
 have hhi := hd.hi
 have hlo := hd.lo
 unfold Fm.disc at h1
 have e1 : (rho s f).B = rhoB s f.B f.C := rfl
 have e2 : (rho s f).A = f.C := rfl
 rw [e1, e2, Int.mul_assoc] at h1
 generalize (rho s f).C = x at *
 generalize rhoB s f.B f.C = r at *
 have e3 : (f.C.natAbs : Int) * x.natAbs = ((f.C * x).natAbs : Int) := by rw [Int.natAbs_mul, Int.natCast_mul]
 have hr : r * r ≤ (f.C.natAbs : Int) * f.C.natAbs := by
  rw [← sq_abs r]
  exact Int.mul_le_mul (by omega) (by omega) (by omega) (by omega)
 have hr0 : 0 ≤ r * r := by
  rw [← sq_abs r]
  exact Int.mul_nonneg (by omega) (by omega)
 have hD : (s + 1) * (s + 1) ≤ (f.C.natAbs : Int) * f.C.natAbs := Int.mul_le_mul (by omega) (by omega) (by omega) (by omega)
 have hx : 4 * ((f.C.natAbs : Int) * x.natAbs) ≤ (f.C.natAbs : Int) * f.C.natAbs := by
  rw [e3]
  have hss := Int.mul_nonneg (Int.le_of_lt hs) (Int.le_of_lt hs)
  omega
 rcases Nat.lt_or_ge f.C.natAbs (2 * x.natAbs) with q | q
 ·exfalso
  have h5 : (f.C.natAbs : Int) * (f.C.natAbs + 1) ≤ f.C.natAbs * (2 * x.natAbs) := Int.mul_le_mul_of_nonneg_left (by omega) (by omega)
  have h6 : 0 < (f.C.natAbs : Int) * f.C.natAbs := Int.mul_pos (by omega) (by omega)
  have e4 : (f.C.natAbs : Int) * (2 * x.natAbs) = 2 * (f.C.natAbs * x.natAbs) := by grind
  have e5 : (f.C.natAbs : Int) * (f.C.natAbs + 1) = f.C.natAbs * f.C.natAbs + f.C.natAbs := by grind
  omega
 ·exact q
theorem rhoB_small {s B C : Int} (hs : 0 < s) (hC : C ≠ 0) : (rhoB s B C).natAbs ≤ max s.natAbs C.natAbs := by
 obtain ⟨k1, k2⟩ := rhoB_range (s := s) (B := B) hC
 rcases Int.lt_or_le s (C.natAbs : Int) with q | q
 ·have := k1 q; omega
 ·have := k2 q; omega
theorem rhoB_lt {s B C : Int} (hs : 0 < s) (hs2 : s ≤ 255) (hC : C ≠ 0) {k : Nat} (hk : 16 ≤ k) (h : C.natAbs < 2 ^ k) : (rhoB s B C).natAbs < 2 ^ k := by
 have := rhoB_small (B := B) hs hC
 have : 2 ^ 16 ≤ 2 ^ k := Nat.pow_le_pow_right (by omega) hk
 omega
theorem rho_small {D s : Int} (hd : Dis D s) (hs2 : s ≤ 255) {f : Fm} (h : f.disc = D) {k : Nat} (hk : 16 ≤ k) (hc : f.C.natAbs < 2 ^ k) : (rho s f).B.natAbs < 2 ^ k ∧ (rho s f).C.natAbs < 2 ^ k := by
 have hC := (disc_ne hd h).2
 refine ⟨rhoB_lt hd.pos hs2 hC hk hc, ?_⟩
 have hp : 2 ^ 16 ≤ 2 ^ k := Nat.pow_le_pow_right (by omega) hk
 rcases Int.lt_or_le s (f.C.natAbs : Int) with q | q
 ·have := rho_half hd h q; omega
 ·have h1 := rho_disc (s := s) h hC
  have hr := rhoB_small (B := f.B) hd.pos hC
  have hs := hd.pos
  have hhi := hd.hi
  have hlo := hd.lo
  unfold Fm.disc at h1
  have e1 : (rho s f).B = rhoB s f.B f.C := rfl
  have e2 : (rho s f).A = f.C := rfl
  rw [e1, e2, Int.mul_assoc] at h1
  generalize (rho s f).C = x at *
  generalize rhoB s f.B f.C = r at *
  have hb : r * r ≤ 65025 := by
   rw [← sq_abs r]
   have := Int.mul_le_mul (show (r.natAbs : Int) ≤ 255 by omega) (show (r.natAbs : Int) ≤ 255 by omega) (by omega) (by omega)
   omega
  have hr0 : 0 ≤ r * r := by
   rw [← sq_abs r]
   exact Int.mul_nonneg (by omega) (by omega)
  have hD : D < 65536 := by
   have := Int.mul_le_mul (show s + 1 ≤ 256 by omega) (show s + 1 ≤ 256 by omega) (by omega) (by omega)
   omega
  have hss := Int.mul_nonneg (Int.le_of_lt hs) (Int.le_of_lt hs)
  have e3 : (f.C.natAbs : Int) * x.natAbs = ((f.C * x).natAbs : Int) := by rw [Int.natAbs_mul, Int.natCast_mul]
  have h5 : (1 : Int) * x.natAbs ≤ f.C.natAbs * x.natAbs := Int.mul_le_mul_of_nonneg_right (by omega) (by omega)
  omega
theorem rhoK_mul {s : Int} {f : Fm} (hC : f.C ≠ 0) : 2 * f.C * rhoK s f = rhoB s f.B f.C + f.B := by
 obtain ⟨q, hq⟩ := rhoB_dvd (s := s) (B := f.B) (C := f.C)
 have hk : rhoK s f = q := by unfold rhoK; rw [hq]; exact Int.mul_ediv_cancel_left _ (by omega)
 rw [hk, hq]
theorem rhoK_abs {s : Int} {f : Fm} (hC : f.C ≠ 0) : 2 * (f.C.natAbs * (rhoK s f).natAbs) ≤ (rhoB s f.B f.C).natAbs + f.B.natAbs := by
 have h := rhoK_mul (s := s) hC
 have e : (2 * f.C * rhoK s f).natAbs = 2 * (f.C.natAbs * (rhoK s f).natAbs) := by
  rw [Int.natAbs_mul, Int.natAbs_mul, Nat.mul_assoc]; rfl
 rw [h] at e
 omega
theorem rhoK_lt {s : Int} (hs : 0 < s) (hs2 : s ≤ 255) {f : Fm} (hC : f.C ≠ 0) {k : Nat} (hk : 16 ≤ k) (hb : f.B.natAbs < 2 ^ k) (hc : f.C.natAbs < 2 ^ k) : (rhoK s f).natAbs < 2 ^ k := by
 have h1 := rhoK_abs (s := s) hC
 have h2 := rhoB_lt (B := f.B) hs hs2 hC hk hc
 have h3 : 1 * (rhoK s f).natAbs ≤ f.C.natAbs * (rhoK s f).natAbs := Nat.mul_le_mul_right _ (by omega)
 omega
theorem RD.small {D s : Int} (hd : Dis D s) (hs2 : s ≤ 255) {f : Fm} (h : RD D s f) : f.A.natAbs < 2 ^ 8 ∧ f.B.natAbs < 2 ^ 8 ∧ f.C.natAbs < 2 ^ 8 ∧ (rhoK s f).natAbs < 2 ^ 8 := by
 have h1 := h.abs
 have h2 := h.r.b0
 have h3 := h.r.b1
 obtain ⟨_, h4⟩ := red_mirror hd h.h h.r
 have hC := (disc_ne hd h.h).2
 have h5 := rhoK_abs (s := s) hC
 have h6 := rhoB_small (B := f.B) hd.pos hC
 have h7 : 1 * (rhoK s f).natAbs ≤ f.C.natAbs * (rhoK s f).natAbs := Nat.mul_le_mul_right _ (by omega)
 have e : (2 : Nat) ^ 8 = 256 := rfl
 rw [e]
 omega
theorem red_log {D s : Int} (hd : Dis D s) : ∀ (k : Nat) (f : Fm), f.disc = D → f.C.natAbs < 2 ^ k → ∃ n, n ≤ k + 2 ∧ RedF s (rhoN s n f)
 | 0, f, h, hc => absurd (disc_ne hd h).2 (by rw [Nat.pow_zero] at hc; omega)
 | k + 1, f, h, hc => by
  have hC := (disc_ne hd h).2
  rcases Int.lt_or_le s (f.C.natAbs : Int) with q | q
  ·have h1 := rho_half hd h q
   rw [Nat.pow_succ] at hc
   obtain ⟨n, h2, h3⟩ := red_log hd k (rho s f) (rho_disc h hC) (by omega)
   exact ⟨n + 1, by omega, h3⟩
  ·refine ⟨2, by omega, ?_⟩
   have h1 := (rhoB_range (s := s) (B := f.B) hC).2 q
   exact half_red hd (rho_disc h hC) q h1.1 h1.2
def walkR (s : Int) : Nat → Fm → Mx
 | 0, _ => Mx.one
 | n + 1, f => (walkR s n f).mul (stepM s (rhoN s n f))
theorem mul_assocM (a b c : Mx) : (a.mul b).mul c = a.mul (b.mul c) := by
 simp only [Mx.mul, Mx.mk.injEq]
 refine ⟨?_, ?_, ?_, ?_⟩ <;> grind
theorem one_mulM (a : Mx) : Mx.one.mul a = a := by
 cases a
 simp [Mx.mul, Mx.one]
theorem mul_oneM (a : Mx) : a.mul Mx.one = a := by
 cases a
 simp [Mx.mul, Mx.one]
theorem rhoN_succ (s : Int) (n : Nat) (f : Fm) : rhoN s (n + 1) f = rho s (rhoN s n f) := by
 rw [Nat.add_comm, rhoN_add]
 rfl
theorem walkM_succ (s : Int) : ∀ (n : Nat) (f : Fm), walkM s (n + 1) f = (walkM s n f).mul (stepM s (rhoN s n f))
 | 0, f => by
  show (stepM s f).mul Mx.one = Mx.one.mul (stepM s f)
  rw [mul_oneM, one_mulM]
 | n + 1, f => by
  show (stepM s f).mul (walkM s (n + 1) (rho s f)) = ((stepM s f).mul (walkM s n (rho s f))).mul (stepM s (rhoN s n (rho s f)))
  rw [walkM_succ s n (rho s f), mul_assocM]
theorem walkR_eq (s : Int) : ∀ (n : Nat) (f : Fm), walkR s n f = walkM s n f
 | 0, _ => rfl
 | n + 1, f => by
  show (walkR s n f).mul _ = _
  rw [walkR_eq s n f, walkM_succ]
theorem walkR_det (s : Int) (n : Nat) (f : Fm) : (walkR s n f).det = 1 := by rw [walkR_eq, walk_det]
theorem walkR_app {D s : Int} (hd : Dis D s) (n : Nat) {f : Fm} (h : f.disc = D) : f.app (walkR s n f) = rhoN s n f := by rw [walkR_eq, walk_app hd n h]
theorem rhoN_disc {D s : Int} (hd : Dis D s) : ∀ (n : Nat) {f : Fm}, f.disc = D → (rhoN s n f).disc = D
 | 0, _, h => h
 | n + 1, _, h => rhoN_disc hd n (rho_disc h (disc_ne hd h).2)
structure Mx.bd (m : Mx) (w : Nat) : Prop where
 a : m.a.natAbs < 2 ^ w
 b : m.b.natAbs < 2 ^ w
 c : m.c.natAbs < 2 ^ w
 d : m.d.natAbs < 2 ^ w
theorem step_lt {x y k : Int} {w j : Nat} (hx : x.natAbs < 2 ^ w) (hy : y.natAbs < 2 ^ w) (hk : k.natAbs < 2 ^ j) : (x * -1 + y * k).natAbs < 2 ^ (w + j) := by
 have h1 : (y * k).natAbs = y.natAbs * k.natAbs := Int.natAbs_mul ..
 have h2 : y.natAbs * k.natAbs ≤ (2 ^ w - 1) * k.natAbs := Nat.mul_le_mul_right _ (by omega)
 have h3 : (2 ^ w - 1) * (k.natAbs + 1) ≤ (2 ^ w - 1) * 2 ^ j := Nat.mul_le_mul_left _ hk
 have h4 : (2 ^ w - 1) * 2 ^ j < 2 ^ w * 2 ^ j := Nat.mul_lt_mul_of_pos_right (by have := Nat.two_pow_pos w; omega) (Nat.two_pow_pos j)
 rw [Nat.pow_add]
 rw [Nat.mul_add] at h3
 omega
theorem Mx.bd.step {m : Mx} {w j : Nat} (h : m.bd w) {k : Int} (hk : k.natAbs < 2 ^ j) : (m.mul ⟨0, -1, 1, k⟩).bd (w + j) := by
 have hp : 2 ^ w ≤ 2 ^ (w + j) := Nat.pow_le_pow_right (by omega) (by omega)
 refine ⟨?_, step_lt h.a h.b hk, ?_, step_lt h.c h.d hk⟩
 ·have e : (m.mul ⟨0, -1, 1, k⟩).a = m.b := by simp [Mx.mul]
  rw [e]; exact Nat.lt_of_lt_of_le h.b hp
 ·have e : (m.mul ⟨0, -1, 1, k⟩).c = m.d := by simp [Mx.mul]
  rw [e]; exact Nat.lt_of_lt_of_le h.d hp
theorem Mx.bd.le {m : Mx} {w v : Nat} (h : m.bd w) (hv : w ≤ v) : m.bd v := by
 have hp : 2 ^ w ≤ 2 ^ v := Nat.pow_le_pow_right (by omega) hv
 exact ⟨Nat.lt_of_lt_of_le h.a hp, Nat.lt_of_lt_of_le h.b hp, Nat.lt_of_lt_of_le h.c hp, Nat.lt_of_lt_of_le h.d hp⟩
structure Fm.bd (f : Fm) (w : Nat) : Prop where
 A : f.A.natAbs < 2 ^ w
 B : f.B.natAbs < 2 ^ w
 C : f.C.natAbs < 2 ^ w
theorem rhoN_bd {D s : Int} (hd : Dis D s) (hs2 : s ≤ 255) {k : Nat} (hk : 16 ≤ k) : ∀ (n : Nat) {f : Fm}, f.disc = D → f.bd k → (rhoN s n f).bd k
 | 0, _, _, h => h
 | n + 1, f, e, h => by
  obtain ⟨h1, h2⟩ := rho_small hd hs2 e hk h.C
  exact rhoN_bd hd hs2 hk n (rho_disc e (disc_ne hd e).2) ⟨h.C, h1, h2⟩
theorem walkR_bd {D s : Int} (hd : Dis D s) (hs2 : s ≤ 255) {k : Nat} (hk : 16 ≤ k) {f : Fm} (e : f.disc = D) (h : f.bd k) : ∀ (n : Nat), (walkR s n f).bd (n * k + 1)
 | 0 => by
  show Mx.one.bd _
  simp only [Nat.zero_mul, Nat.zero_add]
  exact ⟨by decide, by decide, by decide, by decide⟩
 | n + 1 => by
  have h1 := rhoN_bd hd hs2 hk n e h
  have h2 := rhoK_lt hd.pos hs2 (disc_ne hd (rhoN_disc hd n e)).2 hk h1.B h1.C
  exact ((walkR_bd hd hs2 hk e h n).step h2).le (by rw [Nat.add_mul]; omega)
theorem cyc_bd {D s : Int} (hd : Dis D s) (hs2 : s ≤ 255) {f : Fm} (h : RD D s f) : ∀ (n : Nat), (walkR s n f).bd (n * 8 + 1)
 | 0 => by
  show Mx.one.bd _
  simp only [Nat.zero_mul, Nat.zero_add]
  exact ⟨by decide, by decide, by decide, by decide⟩
 | n + 1 => by
  have h1 := (h.rhoN hd n).small hd hs2
  exact ((cyc_bd hd hs2 h n).step h1.2.2.2).le (by omega)
def cd2 (s : Int) (f : Fm) : Nat := (f.A + s).toNat * (s.toNat / 2 + 1) + f.B.toNat / 2
theorem sq_mod4 (b : Int) : (b * b) % 4 = b % 2 := by
 rw [Int.mul_emod]
 have : b % 4 = 0 ∨ b % 4 = 1 ∨ b % 4 = 2 ∨ b % 4 = 3 := by omega
 rcases this with h | h | h | h <;> rw [h] <;> omega
theorem disc_par {D : Int} {f : Fm} (h : f.disc = D) : f.B % 2 = D % 4 := by
 unfold Fm.disc at h
 rw [Int.mul_assoc] at h
 have := sq_mod4 f.B
 omega
theorem cd2_lt {D s : Int} (hd : Dis D s) {f : Fm} (h : RD D s f) : cd2 s f < (2 * s.toNat + 1) * (s.toNat / 2 + 1) := by
 have h1 := h.abs
 have h2 := h.r.b1
 have h3 := hd.pos
 unfold cd2
 have h4 : (f.A + s).toNat * (s.toNat / 2 + 1) ≤ 2 * s.toNat * (s.toNat / 2 + 1) := Nat.mul_le_mul_right _ (by omega)
 rw [Nat.add_mul, Nat.one_mul]
 omega
theorem cd2_inj {D s : Int} (hd : Dis D s) {f g : Fm} (hf : RD D s f) (hg : RD D s g) (h : cd2 s f = cd2 s g) : f = g := by
 refine cd_inj hd hf hg ?_
 have p1 := disc_par hf.h
 have p2 := disc_par hg.h
 have b1 := hf.r.b1
 have b2 := hg.r.b1
 have c1 := hf.r.b0
 have c2 := hg.r.b0
 unfold cd2 at h
 unfold cd
 have key : ∀ x y u v m : Nat, y < m → v < m → x * m + y = u * m + v → x = u ∧ y = v := by
  intro x y u v m hy hv he
  have d1 : (x * m + y) / m = x := by rw [Nat.mul_comm, Nat.mul_add_div (by omega), Nat.div_eq_of_lt hy, Nat.add_zero]
  have d2 : (u * m + v) / m = u := by rw [Nat.mul_comm, Nat.mul_add_div (by omega), Nat.div_eq_of_lt hv, Nat.add_zero]
  have e : x = u := by rw [← d1, he, d2]
  subst e
  exact ⟨rfl, by omega⟩
 obtain ⟨k1, k2⟩ := key _ _ _ _ _ (by omega) (by omega) h
 rw [k1]
 omega
theorem closes2 {D s : Int} (hd : Dis D s) {f : Fm} (hf : RD D s f) : ∃ n, 1 ≤ n ∧ n ≤ (2 * s.toNat + 1) * (s.toNat / 2 + 1) ∧ rhoN s n f = f := by
 rcases Classical.em (∃ n, 1 ≤ n ∧ n ≤ (2 * s.toNat + 1) * (s.toNat / 2 + 1) ∧ rhoN s n f = f) with h | h
 ·exact h
 exfalso
 have := nodup_leX ((2 * s.toNat + 1) * (s.toNat / 2 + 1)) ((List.range ((2 * s.toNat + 1) * (s.toNat / 2 + 1) + 1)).map fun i => cd2 s (rhoN s i f)) (by
  unfold List.Nodup
  rw [List.pairwise_map]
  refine (List.pairwise_lt_range (n := (2 * s.toNat + 1) * (s.toNat / 2 + 1) + 1)).imp_of_mem fun {i j} hi hj hij e => ?_
  have hj := List.mem_range.1 hj
  have e1 := cd2_inj hd (hf.rhoN hd i) (hf.rhoN hd j) e
  have e2 : rhoN s j f = rhoN s i (rhoN s (j - i) f) := by rw [← rhoN_add]; congr 1; omega
  rw [e2] at e1
  have e3 := RD.inj hd i hf (hf.rhoN hd (j - i)) e1
  exact h ⟨j - i, by omega, by omega, e3.symm⟩) fun x hx => by
   obtain ⟨i, _, rfl⟩ := List.mem_map.1 hx
   exact cd2_lt hd (hf.rhoN hd i)
 rw [List.length_map, List.length_range] at this
 omega
def redN0 : Nat → Int → Fm → Nat
 | 0, _, _ => 0
 | k + 1, s, f => cond (redQ f) 0 (redN0 k s (rho s f) + 1)
def stepsOf (f : Fm) : Nat := redN0 (f.C.natAbs + 3) (knS f.disc) f
theorem redN0_spec (s : Int) : ∀ (k n : Nat) (f : Fm), n < k → redQ (rhoN s n f) = true → (∀ i, i < n → redQ (rhoN s i f) = false) → redN0 k s f = n
 | 0, _, _, h, _, _ => absurd h (by omega)
 | k + 1, 0, f, _, h, _ => by
  have h : redQ f = true := h
  simp [redN0, h]
 | k + 1, n + 1, f, hk, h, hl => by
  have h0 : redQ f = false := hl 0 (by omega)
  simp only [redN0, h0, cond_false]
  rw [redN0_spec s k n (rho s f) (by omega) h fun i hi => hl (i + 1) (by omega)]
theorem least {p : Nat → Bool} : ∀ (n : Nat), p n = true → ∃ m, m ≤ n ∧ p m = true ∧ ∀ i, i < m → p i = false
 | 0, h => ⟨0, Nat.le_refl _, h, fun i hi => by omega⟩
 | n + 1, h => by
  cases h0 : p 0 with
  | true => exact ⟨0, by omega, h0, fun i hi => by omega⟩
  | false =>
   obtain ⟨m, h1, h2, h3⟩ := least (p := fun i => p (i + 1)) n h
   refine ⟨m + 1, by omega, h2, fun i hi => ?_⟩
   cases i with
   | zero => exact h0
   | succ i => exact h3 i (by omega)
theorem nat_lt_pow (n : Nat) : n < 2 ^ n := Nat.lt_two_pow_self
theorem steps_spec {f : Fm} (h : knE f.disc = 0) {k : Nat} (hk : f.C.natAbs < 2 ^ k) :
  stepsOf f ≤ k + 2 ∧ redQ (rhoN (knS f.disc) (stepsOf f) f) = true ∧ (∀ i, i < stepsOf f → redQ (rhoN (knS f.disc) i f) = false) := by
 obtain ⟨hd, _⟩ := kn_dis h
 have tr : ∀ {n}, RedF (knS f.disc) (rhoN (knS f.disc) n f) → redQ (rhoN (knS f.disc) n f) = true := fun {n} hn => by
  rw [redQ_iff, rhoN_disc hd n rfl]; exact ⟨h, hn⟩
 obtain ⟨n, h1, h2⟩ := red_log hd k f rfl hk
 obtain ⟨n', h1', h2'⟩ := red_ends hd f.C.natAbs f rfl (Nat.le_refl _)
 obtain ⟨m, k1, k2, k3⟩ := least (p := fun n => redQ (rhoN (knS f.disc) n f)) n (tr h2)
 have hm : m ≤ n' := by
  rcases Nat.lt_or_ge n' m with q | q
  ·have q1 := k3 n' q
   have q2 := tr h2'
   simp only [q2] at q1
   simp at q1
  ·exact q
 have e : stepsOf f = m := redN0_spec _ _ m f (by omega) k2 k3
 rw [e]
 exact ⟨by omega, k2, k3⟩
def redG (f : Fm) : Fm := rhoN (knS f.disc) (stepsOf f) f
def redM (f : Fm) : Mx := walkR (knS f.disc) (stepsOf f) f
instance : DecidableEq Fm := fun f g => decidable_of_iff (f.A = g.A ∧ f.B = g.B ∧ f.C = g.C) ⟨fun h => Fm.ext' h.1 h.2.1 h.2.2, fun h => by subst h; exact ⟨rfl, rfl, rfl⟩⟩
def perGo : Nat → Int → Fm → Fm → Nat
 | 0, _, _, _ => 1
 | k + 1, s, f, g => cond (decide (g.A = f.A) && (decide (g.B = f.B) && decide (g.C = f.C))) 1 (perGo k s f (rho s g) + 1)
def perOf (f : Fm) : Nat := perGo ((2 * (knS f.disc).toNat + 1) * ((knS f.disc).toNat / 2 + 1)) (knS f.disc) f (rho (knS f.disc) f)
def sameF (f g : Fm) : Bool := decide (g.A = f.A) && (decide (g.B = f.B) && decide (g.C = f.C))
theorem sameF_iff {f g : Fm} : sameF f g = true ↔ g = f := by
 unfold sameF
 simp only [Bool.and_eq_true, decide_eq_true_eq]
 exact ⟨fun ⟨a, b, c⟩ => Fm.ext' a b c, fun h => by subst h; exact ⟨rfl, rfl, rfl⟩⟩
theorem perGo_spec (s : Int) (f : Fm) : ∀ (k n : Nat) (g : Fm), n ≤ k → sameF f (rhoN s n g) = true → (∀ i, i < n → sameF f (rhoN s i g) = false) → perGo k s f g = n + 1
 | 0, n, g, hn, _, _ => by
  obtain rfl : n = 0 := by omega
  rfl
 | k + 1, 0, g, _, h, _ => by
  have h : sameF f g = true := h
  show cond (sameF f g) 1 _ = _
  simp [h]
 | k + 1, n + 1, g, hk, h, hl => by
  have h0 : sameF f g = false := hl 0 (by omega)
  show cond (sameF f g) 1 (perGo k s f (rho s g) + 1) = _
  rw [h0, cond_false, perGo_spec s f k n (rho s g) (by omega) h fun i hi => hl (i + 1) (by omega)]
theorem per_spec {f : Fm} (h : redQ f = true) : 1 ≤ perOf f ∧ perOf f ≤ (2 * (knS f.disc).toNat + 1) * ((knS f.disc).toNat / 2 + 1) ∧ rhoN (knS f.disc) (perOf f) f = f ∧ ∀ i, 1 ≤ i → i < perOf f → rhoN (knS f.disc) i f ≠ f := by
 obtain ⟨h0, hr⟩ := redQ_RD.1 h
 obtain ⟨hd, _⟩ := kn_dis h0
 obtain ⟨n, h1, h2, h3⟩ := closes2 hd hr
 obtain ⟨m, k1, k2, k3⟩ := least (p := fun n => sameF f (rhoN (knS f.disc) n (rho (knS f.disc) f))) (n - 1) (sameF_iff.2 (by
  show rhoN (knS f.disc) (n - 1 + 1) f = f
  rw [Nat.sub_add_cancel h1]; exact h3))
 have e : perOf f = m + 1 := perGo_spec _ _ _ m _ (by omega) k2 k3
 rw [e]
 refine ⟨by omega, by omega, sameF_iff.1 k2, fun i hi hi2 q => ?_⟩
 have q1 := k3 (i - 1) (by omega)
 have q2 : sameF f (rhoN (knS f.disc) (i - 1) (rho (knS f.disc) f)) = true := sameF_iff.2 (by
  show rhoN (knS f.disc) (i - 1 + 1) f = f
  rw [Nat.sub_add_cancel hi]; exact q)
 simp only [q2] at q1
 simp at q1
theorem per_le {f : Fm} (h : redQ f = true) : perOf f ≤ 65408 := by
 obtain ⟨h0, hr⟩ := redQ_RD.1 h
 obtain ⟨_, hs, _⟩ := kn_dis h0
 have h1 := (per_spec h).2.1
 have h2 : (2 * (knS f.disc).toNat + 1) * ((knS f.disc).toNat / 2 + 1) ≤ 511 * 128 := Nat.mul_le_mul (by omega) (by omega)
 omega
end Go.Proofs.YtnfmjlhkknndhaaGreat
/-
 The evaluator, part 5: maps, ranges over functions, calls in place: what code comes to ('evX'), and the frames in which it is walked.
-/
namespace Go.Proofs.YtnfmjlhkknndhaaGreat
open Go Go.RowKit
structure MapC where
 kt : TypeId
 kk : IntKind
 n : Nat
 f : List Int → Bool
structure XS where
 mp : Option (Nat × MapC)
 pe : Option Ex
inductive XAnn where
 | inv (ι : Type) (I : ι → Prop) (T : ι → MS) (X : ι → Option (Nat × MapC)) (μ : ι → Nat)
structure ItE (P : Program) where
 f : FuncId
 fn : Func
 hf : P.funcs[f]? = some fn
 hc : ∀ args w, (callFunc f args).run P w = .ok (.enter f args) w
 E : Env P
 xann : Nat → MS → XS → Option XAnn
structure XE (P : Program) where
 E : Env P
 xann : Nat → MS → XS → Option XAnn
 its : List (ItE P)
 inl : List (ItE P)
 rnp : Nat → Nat
 all : Nat → Option (List Oper)
def findIt {P : Program} (f : Nat) : List (ItE P) → Option (ItE P)
 | [] => none
 | c :: r => cond (c.f.beq f) (some c) (findIt f r)
def stayM (np : Nat) : MV → MV
 | .bool b => .bool b
 | .int k n => .int k n
 | .val v => .val v
 | .bp i off => cond (i.blt np) (.bp i off) .any
 | .br i idx off => cond (i.blt np) (.br i idx off) .any
 | .bs i off len => cond (i.blt np) (.bs i off len) .any
 | _ => .any
def stayTm (np : Nat) : List (Nat × MV) → List (Nat × MV)
 | [] => []
 | (t, m) :: r => (t, stayM np m) :: stayTm np r
def leX (x : XS) (q : Option (Nat × MapC)) : Prop :=
 match x.pe with
 | some _ => False
 | none => match q with
  | none => True
  | some (B, m) => match x.mp with
   | none => False
   | some (B', m') => B' = B ∧ m'.kt = m.kt ∧ m'.kk = m.kk ∧ m'.n = m.n ∧ ∀ l, l.length = m.n → m'.f l = m.f l
abbrev XK := Ex → MS → XS → Prop
structure Hnd where
 L : Nat
 yh : List MV → MS → XS → (List Box → Option (Nat × MapC) → Prop) → (Ex → List Box → Option (Nat × MapC) → Prop) → Prop
 rng : Operand → Array Tmp → Code → Code → MS → XS → XK → Prop
def Hnd.none : Hnd := ⟨0, fun _ _ _ _ _ => False, fun _ _ _ _ _ _ _ => False⟩
inductive XOp where
 | plain
 | mk (t : TypeId)
 | look (t : TypeId) (m k : MV)
 | upd (t : TypeId) (m k v : MV)
 | yield (l : Nat) (args : List MV)
 | inl (f : Nat) (args : List MV)
 | app (i : Nat)
def inlIs {P : Program} (X : XE P) (f : Nat) : Bool := match findIt f X.inl with | some _ => true | none => false
def xopCall {P : Program} (X : XE P) (s : MS) (c : Call) : XOp :=
 match c.callee with
 | .value g => (match s.ev g with
  | .val v => (match v with
   | .func fn a b => (match fn with
    | .yield l => cond (a.size.beq 0 && b.size.beq 0) (.yield l (c.args.toList.map s.ev)) .plain
    | _ => .plain)
   | _ => .plain)
  | .fn f caps => (match caps with
   | [] => cond (inlIs X f) (.inl f (c.args.toList.map s.ev)) .plain
   | _ :: _ => .plain)
  | _ => .plain)
 | .builtin b => (match b with
  | .append => (match c.args.toList with
   | d :: _ => (match s.ev d with
    | .bs i _ _ => .app i
    | _ => .plain)
   | [] => .plain)
  | _ => .plain)
 | _ => .plain
def xop {P : Program} (X : XE P) (s : MS) (o : Op) : XOp :=
 match o with
 | .makeMap t r => (match r with | none => .mk t | some _ => .plain)
 | .lookup t m k ok => cond ok .plain (.look t (s.ev m) (s.ev k))
 | .mapUpdate t m k v => .upd t (s.ev m) (s.ev k) (s.ev v)
 | .call c => xopCall X s c
 | _ => .plain
def zeroFalse (P : Program) (t : TypeId) : Bool :=
 match P.info? t with
 | some i => (match i.zero with
  | some v => (match v with | .bool b => !b | _ => false)
  | none => false)
 | none => false
def mapTy (P : Program) (t : TypeId) : Option (TypeId × IntKind × Nat) :=
 match P.underlying t with
 | some (.map kt et) => (match P.underlying et with
  | some .bool => (match P.underlying kt with
   | some (.array n e) => (match P.underlying e with
    | some (.int q) => cond ((P.cellsOf e).beq 1 && (P.cellsOf kt).beq n && (0).blt P.types.size && zeroFalse P et) (some (kt, q, n)) none
    | _ => none)
   | _ => none)
  | _ => none)
 | _ => none
def MapC.add (m : MapC) (l : List Int) : MapC := ⟨m.kt, m.kk, m.n, fun l' => eqL l' l || m.f l'⟩
def mapKey? (P : Program) (t : TypeId) (mv kv : MV) (x : XS) : Option (Prop × Nat × MapC × List Int) :=
 match mv with
 | .val v => (match v with
  | .map r => (match r with
   | some B => (match x.mp with
    | some (B', m) => (match mapTy P t with
     | some (kt, q, n) => (match kv with
      | .st ms => (match arrInts q ms with
       | some l => cond (l.length.beq n) (some ((B = B' ∧ m.kt = kt ∧ m.kk = q ∧ m.n = n) ∧ wfL q l, B', m, l)) none
       | none => none)
      | _ => none)
     | none => none)
    | none => none)
   | none => none)
  | _ => none)
 | _ => none
def forgetB (i : Nat) : Nat → List Box → List Box
 | _, [] => []
 | j, b :: r => cond (j.beq i) b (match b.c with
   | .one m => cond (m.ment i) ⟨b.fz, .one (cond m.isAgg (.junk m.width) .any)⟩ b
   | _ => b) :: forgetB i (j + 1) r
def MS.forget (i : Nat) (s : MS) : MS := { s with bx := forgetB i 0 s.bx }
def env0 (P : Program) : Env P := ⟨[], [], 0, fun _ _ => none, fun _ => [], fun _ _ => none⟩
def putS (t : Nat) (m : MV) : List (Nat × MV) → List (Nat × MV)
 | [] => [(t, m)]
 | (u, x) :: r => cond (u.blt t) ((u, x) :: putS t m r) (cond (u.beq t) ((t, m) :: r) ((t, m) :: (u, x) :: r))
def MS.putSO (s : MS) (d : Option Nat) (m : MV) : MS := match d with | some t => ⟨s.n, putS t m s.tm, s.bx, s.np⟩ | none => s
def freeTm (i : Nat) : List (Nat × MV) → Bool
 | [] => true
 | (_, m) :: r => !(m.ment i) && freeTm i r
def stepOf (s : MS) (o : Oper) : Act1 → Option (OProp × MS)
 | .val p m => some (p, s.putSO o.dst m)
 | .upd p s' m => some (p, s'.putSO o.dst m)
 | _ => none
def appTo (s : MS) (o : Op) : Option Nat :=
 match o with
 | .call c => (match c.args.toList with
  | d :: _ => (match s.ev d with | .bs i _ _ => some i | _ => none)
  | [] => none)
 | _ => none
def stepAll (P : Program) (s : MS) (o : Oper) : Option (OProp × MS) :=
 match o.guard with
 | some _ => none
 | none => cond (dstOk o.dst s.n) (match o.op with
  | .buildSlice t len parts => (match evBuildSlice P t len (parts.toList.map fun (i, x) => (i, s.ev x)) with
   | .new p b _ => (match b.c with
    | .rows wd n f => cond (!b.fz && freeTm s.bx.length s.tm && bxFree s.bx.length 0 s.bx) (some (p, s.putSO o.dst (.sl wd n f))) none
    | _ => none)
   | _ => none)
  | .call _ => (match appTo s o.op with
   | some i => stepOf (s.forget i) o (ev1 (env0 P) (s.forget i) o.op)
   | none => none)
  | _ => stepOf s o (ev1 (env0 P) s o.op)) none
def runF (P : Program) : List Oper → List Bool → MS → Option MS
 | o :: r, f :: fs, s => cond f (match stepAll P s o with | some (_, s') => runF P r fs s' | none => none) (runF P r fs s)
 | _, _, s => some s
def runPs (P : Program) : List Oper → MS → List OProp
 | [], _ => []
 | o :: r, s => match stepAll P s o with
  | some (p, s') => p :: runPs P r s'
  | none => []
def allFl : Nat → List (List Bool)
 | 0 => [[]]
 | n + 1 => (allFl n).map (false :: ·) ++ (allFl n).map (true :: ·)
def edgesIn (fl : List Bool) (o : Oper) : Bool := o.after.toList.all fun e => !(Region.binds .any e) || fl.getD e.on false
def downB : List Oper → List Bool → List Bool → Bool
 | o :: r, f :: fs, fl => (!f || edgesIn fl o) && downB r fs fl
 | _, _, _ => true
def readyAt : Nat → List Oper → List Bool → List Bool → List (Nat × Oper)
 | k, o :: r, f :: fs, fl => cond (!f && edgesIn fl o) ((k, o) :: readyAt (k + 1) r fs fl) (readyAt (k + 1) r fs fl)
 | _, _, _, _ => []
def drawL (P : Program) (ops : List Oper) (s : MS) : List (List Bool) → List (List (Option (Option (OProp × MS))))
 | [] => []
 | fl :: r => cond (downB ops fl fl) ((readyAt 0 ops fl fl).map fun (_, o) => match runF P ops fl s with | some s1 => some (stepAll P s1 o) | none => none) [] :: drawL P ops s r
def drawR (P : Program) (ops : List Oper) (s : MS) (ps : List OProp) : List (List Bool) → List (List (Option (Option (OProp × MS))))
 | [] => []
 | fl :: r => cond (downB ops fl fl) ((readyAt 0 ops fl fl).map fun (k, _) => match runF P ops (fl.set k true) s with | some s2 => some (some (ps.getD k none, s2)) | none => none) [] :: drawR P ops s ps r
def psHold : List OProp → Prop → Prop
 | [], q => q
 | p :: r, q => oand p (psHold r q)
structure DrawOk (P : Program) (ops : List Oper) (s : MS) : Prop where
 h : drawL P ops s (allFl ops.length) = drawR P ops s (runPs P ops s) (allFl ops.length)
def evAll (P : Program) (ops : List Oper) (s : MS) (K : MS → Prop) : Prop :=
 backAll 0 ops = true ∧ DrawOk P ops s ∧ psHold (runPs P ops s) (match runF P ops (List.replicate ops.length true) s with | some s' => K s' | none => False)
def evInl {P : Program} (ie : ItE P) (args : List MV) (s : MS) (K : MV → List Box → Prop) : Prop :=
 match ie.fn.body with
 | some c => (match ie.fn.results.toList with
  | [.tmp t] => cond (args.length.ble ie.fn.ntmps) (evCode ie.E (fun _ => False) c ⟨ie.fn.ntmps, numbered 0 args, s.bx, s.bx.length⟩ (fun e s' => match e with
    | .exit _ => False
    | _ => K (look t s'.tm) s'.bx)) False
  | _ => False)
 | none => False
def evStepX {P : Program} (X : XE P) (H : Hnd) (ops : List Oper) (o : Oper) (s : MS) (x : XS) (K : MS → XS → Prop) : Prop :=
 match xop X s o.op with
 | .plain => evSeq X.E ops (fun _ => False) [o] s (fun s' => K s' x)
 | .app i => evSeq X.E ops (fun _ => False) [o] (s.forget i) (fun s' => K s' x)
 | k => (match o.guard with
  | some _ => Stuck o.op s
  | none => cond (dstOk o.dst s.n) (match k with
   | .mk t => (match mapTy P t with
    | some (kt, q, n) => (match x.mp with
     | none => ∀ B : Nat, K (s.putO o.dst (.val (.map (some B)))) ⟨some (B, ⟨kt, q, n, fun _ => false⟩), x.pe⟩
     | some _ => Stuck o.op s)
    | none => Stuck o.op s)
   | .look t m kv => (match mapKey? P t m kv x with
    | some (p, _, m, l) => p ∧ K (s.putO o.dst (.bool (m.f l))) x
    | none => Stuck o.op s)
   | .upd t m kv v => (match mapKey? P t m kv x with
    | some (p, B, m, l) => (match v with
     | .bool b => (match o.dst with
      | none => (p ∧ b = true) ∧ K s ⟨some (B, m.add l), x.pe⟩
      | some _ => Stuck o.op s)
     | _ => Stuck o.op s)
    | none => Stuck o.op s)
   | .yield l args => cond (args.all fun m => !m.isTup) (match x.pe with
    | none => l = H.L ∧ H.yh args s x (fun bx mp => K ((⟨s.n, stayTm s.np s.tm, bx, s.np⟩ : MS).putO o.dst (.bool true)) ⟨mp, none⟩)
      (fun e bx mp => K ((⟨s.n, stayTm s.np s.tm, bx, s.np⟩ : MS).putO o.dst (.bool false)) ⟨mp, some e⟩)
    | some _ => Stuck o.op s) (Stuck o.op s)
   | .inl f args => cond (args.all fun m => !m.isTup) (match findIt f X.inl with
    | some ie => evInl ie args s (fun m bx => K ((⟨s.n, stayTm s.bx.length s.tm, bx, s.np⟩ : MS).putO o.dst m) x)
    | none => Stuck o.op s) (Stuck o.op s)
   | _ => Stuck o.op s) (Stuck o.op s))
def evSeqX {P : Program} (X : XE P) (H : Hnd) (ops : List Oper) : List Oper → MS → XS → (MS → XS → Prop) → Prop
 | [], s, x, K => K s x
 | o :: r, s, x, K => evStepX X H ops o s x (fun s' x' => evSeqX X H ops r s' x' K)
def evRegionX {P : Program} (X : XE P) (H : Hnd) (id : Nat) (ops : List Oper) (draw : Bool) (s : MS) (x : XS) (K : MS → XS → Prop) : Prop :=
 match draw with
 | false => evSeqX X H ops ops s x K
 | true => (match X.all id with
  | some L => evAll P L s (fun s' => K s' x)
  | none => evRegion X.E ops true s (fun s' => K s' x) (fun _ => False))
def allOk {P : Program} (X : XE P) : Code → Prop
 | .region id ops _ => (match X.all id with | some L => ops.toList = L | none => True)
 | .seq a b => allOk X a ∧ allOk X b
 | .cond _ a b => allOk X a ∧ allOk X b
 | .block _ c => allOk X c
 | .loop c => allOk X c
 | .scope c => allOk X c
 | .rangeFunc _ _ a b => allOk X a ∧ allOk X b
 | _ => True
def evLoopX (id : Nat) (F : MS → XS → XK → Prop) (A : Option XAnn) (s : MS) (x : XS) (K : XK) : Prop :=
 match A with
 | none => StuckLoop id
 | some (.inv _ I T X μ) => (∃ i, I i ∧ leMS s (T i) ∧ leX x (X i)) ∧ ∀ i, I i → F (T i) ⟨X i, none⟩ (fun e s' x' => match e with
  | .normal => ∃ j, I j ∧ leMS s' (T j) ∧ leX x' (X j) ∧ μ j < μ i
  | e => K e s' x')
def evX {P : Program} (X : XE P) (H : Hnd) : Code → MS → XS → XK → Prop
 | .skip, s, x, K => K .normal s x
 | .label _, s, x, K => K .normal s x
 | .region id ops draw, s, x, K => evRegionX X H id ops.toList draw (s.frz (X.E.fzs id)) x (K .normal)
 | .seq a b, s, x, K => evX X H a s x (fun e s' x' => match e with | .normal => evX X H b s' x' K | e => K e s' x')
 | .cond c a b, s, x, K => (match c with
  | .tmp t => (match look t s.tm with
   | .bool y => Br y (evX X H a (s.put t (.bool true)) x K) (evX X H b (s.put t (.bool false)) x K)
   | _ => StuckCode (.cond c .skip .skip))
  | _ => StuckCode (.cond c .skip .skip))
 | .block id c, s, x, K => evX X H c s x (fun e s' x' => match e with | .exit j => cond (j.beq id) (K .normal s' x') (K (.exit j) s' x') | e => K e s' x')
 | .loop c, s, x, K => evLoopX (firstRegion c) (evX X H c) (X.xann (firstRegion c) s x) s x K
 | .exit id, s, x, K => K (.exit id) s x
 | .ret, s, x, K => K .ret s x
 | .rangeFunc g ps a b, s, x, K => H.rng g ps a b s x K
 | c, _, _, _ => StuckCode c
def ndOp : Op → Bool
 | .defer _ => false
 | _ => true
def ndCode : Code → Bool
 | .region _ ops _ => ops.toList.all fun o => ndOp o.op
 | .seq a b => ndCode a && ndCode b
 | .cond _ a b => ndCode a && ndCode b
 | .block _ c => ndCode c
 | .loop c => ndCode c
 | .scope c => ndCode c
 | .rangeFunc _ _ a b => ndCode a && ndCode b
 | _ => true
def putPs : List Tmp → List MV → List (Nat × MV) → List (Nat × MV)
 | p :: ps, m :: ms, l => putPs ps ms ((p, m) :: l)
 | _, _, l => l
def roundH {P : Program} (X : XE P) (so : MS) (np : Nat) (ps : Array Tmp) (a b : Code) (ys : List MV) (si : MS) (x : XS) (kN : List Box → Option (Nat × MapC) → Prop) (kX : Ex → List Box → Option (Nat × MapC) → Prop) : Prop :=
 cond (ys.length.beq ps.size && ps.toList.all (fun p => p.blt so.n) && si.np.beq np) (evX X Hnd.none a ⟨so.n, putPs ps.toList ys (stayTm np so.tm), si.bx, np⟩ ⟨x.mp, none⟩ (fun e s1 x1 => match e with
  | .normal => evX X Hnd.none b s1 x1 (fun e s2 x2 => match e with
   | .normal => kN s2.bx x2.mp
   | e => kX e s2.bx x2.mp)
  | _ => False)) False
def rngH {P : Program} (X : XE P) (g : Operand) (ps : Array Tmp) (a b : Code) (s : MS) (x : XS) (K : XK) : Prop :=
 match g with
 | .tmp t => (match look t s.tm with
  | .fn f caps => (match findIt f X.its with
   | some ie => (match ie.fn.body with
    | some c => (match x.pe with
     | none => cond ((caps.length + 1).ble ie.fn.ntmps && ie.fn.results.size.beq 0 && ndCode a && ndCode b && ndCode c)
       (∀ L : Nat, evX { X with E := ie.E, xann := ie.xann, all := fun _ => none } ⟨L, roundH X s (X.rnp (firstRegion b)) ps a b, fun _ _ _ _ _ _ _ => False⟩ c
        ⟨ie.fn.ntmps, (0, .val (.func (.yield L) #[] #[])) :: numbered 1 caps, s.bx, X.rnp (firstRegion b)⟩ x (fun e s' x' => match e with
        | .exit _ => False
        | _ => (match x'.pe with
         | none => K .normal ⟨s.n, stayTm (X.rnp (firstRegion b)) s.tm, s'.bx, s.np⟩ ⟨x'.mp, none⟩
         | some e => K e ⟨s.n, stayTm (X.rnp (firstRegion b)) s.tm, s'.bx, s.np⟩ ⟨x'.mp, none⟩))) False
     | some _ => False)
    | none => False)
   | none => False)
  | _ => False)
 | _ => False
def hFn {P : Program} (X : XE P) : Hnd := ⟨0, fun _ _ _ _ _ => False, rngH X⟩
def evFnX {P : Program} (X : XE P) (fn : Func) (args : List MV) (post : MRes → Prop) : Prop :=
 match fn.body with
 | some c => cond (args.length.ble fn.ntmps && ndCode c) (evX X (hFn X) c ⟨fn.ntmps, numbered 0 args, [], 0⟩ ⟨none, none⟩ (fun e s _ => match e with
  | .exit _ => False
  | _ => match evResults P s fn.results.toList with
   | some (p, l) => oand p <| post (.ret (oneOrTup l))
   | none => StuckRet s)) False
 | none => False
end Go.Proofs.YtnfmjlhkknndhaaGreat
/-
 The evaluator, part 6: what lies outside of the call's own blocks may turn.
-/
namespace Go.Proofs.YtnfmjlhkknndhaaGreat
open Go Go.RowKit
structure Moved (N : Nat) (w w' : World) : Prop where
 os : w'.os = w.os
 output : w'.output = w.output
 size : w.heap.size ≤ w'.heap.size
 cells : ∀ (b : Nat) arr ty fr, w.heap[b]? = some (Obj.cells arr ty fr) → w'.heap[b]? = some (Obj.cells arr ty fr)
 lo : ∀ k, k < N → w'.heap[k]? = w.heap[k]?
 frz : ∀ a : Addr, a.block < w.heap.size → w'.frozen? a = w.frozen? a
theorem Moved.refl (N : Nat) (w : World) : Moved N w w := ⟨rfl, rfl, Nat.le_refl _, fun _ _ _ _ h => h, fun _ _ => rfl, fun _ _ => rfl⟩
theorem Moved.trans {N : Nat} {a b c : World} (h : Moved N a b) (k : Moved N b c) : Moved N a c :=
 ⟨k.os.trans h.os, k.output.trans h.output, Nat.le_trans h.size k.size, fun i x y z e => k.cells i x y z (h.cells i x y z e), fun i hi => (k.lo i hi).trans (h.lo i hi), fun x hx => (k.frz x (Nat.lt_of_lt_of_le hx h.size)).trans (h.frz x hx)⟩
theorem Moved.alloc {N : Nat} {w : World} (hN : N ≤ w.heap.size) (o : Obj) : Moved N w (w.alloc o) := by
 have hb : ∀ k, k < w.heap.size → (w.alloc o).heap[k]? = w.heap[k]? := fun k hk => Below.heap_alloc w o k hk
 exact ⟨rfl, rfl, by simp, fun b arr ty fr h => (hb b (Array.getElem?_eq_some_iff.1 h).1).trans h, fun k hk => hb k (by omega), fun a ha => World.frozen?_of_block (hb _ ha)⟩
theorem Moved.put {N : Nat} {w : World} {e : Nat} {o o' : Obj} (he : w.heap[e]? = some o) (hN : N ≤ e) (ho : o.isCells = false) (ho' : o'.isCells = false) : Moved N w (w.putObj e o') := by
 have hlt := (Array.getElem?_eq_some_iff.1 he).1
 refine ⟨rfl, rfl, by simp, fun b arr ty fr h => ?_, fun k hk => World.putObj_heap_other (by omega), fun a ha => ?_⟩
 ·refine (World.putObj_heap_other fun q => ?_).trans h
  subst q
  rw [he, Option.some.injEq] at h
  subst h
  simp [Obj.isCells] at ho
 ·by_cases hk : a.block = e
  ·unfold World.frozen?
   rw [hk, World.putObj_heap_same hlt, he]
   cases o <;> cases o' <;> first | rfl | (simp [Obj.isCells] at ho ho')
  ·exact World.frozen?_of_block (World.putObj_heap_other hk)
theorem seg.moved {N : Nat} {w w' : World} (h : Moved N w w') {b off : Nat} {cs : List Value} (s : seg w b off cs) : seg w' b off cs := by
 obtain ⟨arr, ty, fr, h1, h2⟩ := s
 exact ⟨arr, ty, fr, h.cells _ _ _ _ h1, h2⟩
theorem WordsR.moved {N : Nat} {c : Ctx} {w w' : World} (h : Moved N w w') {l : List Int} {s : Value} (r : WordsR c w l s) : WordsR c w' l s := by
 obtain ⟨a, cap, h1, h2, h3⟩ := r
 refine ⟨a, cap, h1, h2, fun hl => ?_⟩
 obtain ⟨b, off, h4, h5, h6⟩ := h3 hl
 exact ⟨b, off, h4, h5, h6.moved h⟩
mutual
theorem RepC.moved {N : Nat} {w w' : World} (k : Moved N w w') : ∀ (m : MV) (c : Ctx) (vs : List Value), RepC c w m vs → RepC c w' m vs
 | .any, c, vs, h => h
 | .junk n, c, vs, h => h
 | .bool _, c, vs, h => h
 | .int _ _, c, vs, h => h
 | .val _, c, vs, h => h
 | .big _ _, c, vs, h => by obtain ⟨s, h1, h2, h3⟩ := h; exact ⟨s, h1, h2, h3.moved k⟩
 | .ws _, c, vs, h => by obtain ⟨s, h1, h2⟩ := h; exact ⟨s, h1, h2.moved k⟩
 | .sl wd len f, c, vs, h => by
  obtain ⟨a, cap, h1, h2, h3⟩ := h
  refine ⟨a, cap, h1, h2, fun hl => ?_⟩
  obtain ⟨b, off, h4, h5, h6⟩ := h3 hl
  refine ⟨b, off, h4, h5, fun i hi => ?_⟩
  obtain ⟨cs, h7, h8, h9⟩ := h6 i hi
  exact ⟨cs, h7, RepC.moved k (f i) c.elem cs h8, h9.moved k⟩
 | .st ms, c, vs, h => RepCs.moved k ms c vs h
 | .ref m, c, vs, h => by
  obtain ⟨b, off, cs, h1, h2, h3, h4⟩ := h
  exact ⟨b, off, cs, h1, h2, RepC.moved k m c cs h3, h4.moved k⟩
 | .bp i off, c, vs, h => h
 | .br i _ _, c, vs, h => h
 | .bs i off len, c, vs, h => h
 | .tup _, c, vs, h => h.elim
 | .fn f caps, c, vs, h => by
  obtain ⟨cs, h1, h2, h3⟩ := h
  exact ⟨cs, h1, RepCs.moved k caps c cs h2, h3⟩
 | .iface t m, c, vs, h => by
  obtain ⟨cs, u, h1, h2, h3⟩ := h
  exact ⟨cs, u, h1, RepC.moved k m c cs h2, h3⟩
 | .emp, c, vs, h => h
theorem RepCs.moved {N : Nat} {w w' : World} (k : Moved N w w') : ∀ (ms : List MV) (c : Ctx) (vs : List Value), RepCs c w ms vs → RepCs c w' ms vs
 | [], c, vs, h => h
 | m :: ms, c, vs, h => by
  obtain ⟨x, y, h1, h2, h3⟩ := h
  exact ⟨x, y, h1, RepC.moved k m c x h2, RepCs.moved k ms c y h3⟩
end
theorem Rep1.moved {N : Nat} {c : Ctx} {w w' : World} (k : Moved N w w') {m : MV} {v : Value} (h : Rep1 c w m v) : Rep1 c w' m v := by
 by_cases hn : m = .any
 ·subst hn; trivial
 ·cases hg : m.isAgg with
  | true =>
   rw [rep1_agg hg] at h ⊢
   obtain ⟨cs, h1, h2⟩ := h
   exact ⟨cs, h1, RepC.moved k m c _ h2⟩
  | false =>
   rw [rep1_cell hg hn] at h ⊢
   exact RepC.moved k m c _ h
theorem RepAll.moved {N : Nat} {c : Ctx} {w w' : World} (k : Moved N w w') : ∀ (ms : List MV) (vs : List Value), RepAll c w ms vs → RepAll c w' ms vs
 | [], _, h => h
 | _ :: ms, _, h => by
  obtain ⟨v, r, h1, h2, h3⟩ := h
  exact ⟨v, r, h1, Rep1.moved k h2, RepAll.moved k ms r h3⟩
theorem Rep.moved {N : Nat} {c : Ctx} {w w' : World} (k : Moved N w w') {m : MV} {v : Value} (h : Rep c w m v) : Rep c w' m v := by
 cases hm : m.isTup with
 | false => exact (rep1_iff hm).2 (((rep1_iff hm).1 h).moved k)
 | true =>
  cases m <;> simp [MV.isTup] at hm
  obtain ⟨vs, h1, h2⟩ := h
  exact ⟨vs, h1, RepAll.moved k _ _ h2⟩
theorem BCRep.moved {N : Nat} {c : Ctx} {w w' : World} (k : Moved N w w') {b : BC} {arr : Array Value} (h : BCRep c w b arr) : BCRep c w' b arr := by
 cases b with
 | one m => obtain ⟨cs, h1, h2⟩ := h; exact ⟨cs, RepC.moved k m c cs h1, h2⟩
 | arr _ _ => exact h
 | rows wd len f =>
  intro i hi
  obtain ⟨cs, h1, h2, h3⟩ := h i hi
  exact ⟨cs, h1, RepC.moved k (f i) c.elem cs h2, h3⟩
theorem BoxRep.moved {N : Nat} {c : Ctx} {w w' : World} (k : Moved N w w') {i : Nat} {b : Box} (h : BoxRep c w i b) : BoxRep c w' i b := by
 obtain ⟨arr, ty, h1, h2, h3, h4⟩ := h
 exact ⟨arr, ty, k.cells _ _ _ _ h1, h2, h3, h4.moved k⟩
def ownB (c : Ctx) (b : Nat) : Prop := ∃ i, c.live i ∧ c.β i = b
abbrev baseAt (w : World) (c : Ctx) (pin : Nat → Nat → Sz → Prop) (df : List Deferred) : Base := ⟨w, ownB c, pin, df⟩
theorem Mem.moved {S0 : Nat → Prop} {w1 : Base} {bx : List Box} {c : Ctx} {w w' : World} {N : Nat} (h : Mem S0 w1 bx c w) (k : Moved N w w') (pin : Nat → Nat → Sz → Prop) (df : List Deferred)
  (hp : ∀ i b z, pin i b z → c.live i ∧ c.β i = b ∧ c.sz i = z) : Mem S0 (baseAt w' c pin df) bx c w' := by
 refine ⟨⟨rfl, rfl, Nat.le_refl _, fun _ _ _ => rfl, fun _ _ => rfl⟩, fun b hb => ⟨?_, ?_⟩, ⟨fun hg => ?_, fun hg => ?_⟩, h.hS, h.hW, h.inj, fun i hi => ⟨.inr ⟨i, hi, rfl⟩, Nat.lt_of_lt_of_le (h.fresh i hi).2.1 k.size, (h.fresh i hi).2.2⟩, fun i b hi hb => (h.box i b hi hb).moved k, hp⟩
 ·exact Nat.lt_of_lt_of_le (h.S0lt b hb).1 (Nat.le_trans h.ext.size k.size)
 ·rintro ⟨i, hi, rfl⟩
  exact h.notS0 hi hb
 ·obtain ⟨g1, g2, arr, ty, fr, g3, g4⟩ := h.gl.1 hg
  exact ⟨g1, Nat.lt_of_lt_of_le g2 (Nat.le_trans h.ext.size k.size), arr, ty, fr, k.cells _ _ _ _ ((h.ext.block _ g2 (h.gl.2 hg)).trans g3), g4⟩
 ·rintro ⟨i, hi, e⟩
  obtain ⟨_, g2, _⟩ := h.gl.1 hg
  rcases (h.fresh i hi).1 with q | q
  ·rw [e] at q; exact absurd g2 (by omega)
  ·exact h.gl.2 hg (e ▸ q)
structure Reb (w0 w1 : Base) : Prop where
 ext : ExtB w0 w1.w
 X : ∀ b, w1.X b → w0.new b
theorem Reb.refl (w0 : Base) : Reb w0 w0 := ⟨⟨rfl, rfl, Nat.le_refl _, fun _ _ _ => rfl, fun _ _ => rfl⟩, fun _ h => .inr h⟩
theorem Reb.end_ {w0 w1 : Base} (h : Reb w0 w1) {w : World} (e : ExtB w1 w) : ExtB w0 w :=
 ⟨e.os.trans h.ext.os, e.output.trans h.ext.output, Nat.le_trans h.ext.size e.size, fun k hk hx => (e.block k (Nat.lt_of_lt_of_le hk h.ext.size) (fun q => (h.X k q).elim (fun r => by omega) hx)).trans (h.ext.block k hk hx),
  fun a ha => (e.frz a (Nat.lt_of_lt_of_le ha h.ext.size)).trans (h.ext.frz a ha)⟩
theorem Reb.move {S0 : Nat → Prop} {w0 w1 : Base} {bx : List Box} {c : Ctx} {w w' : World} (h : Reb w0 w1) (m : Mem S0 w1 bx c w) (k : Moved w0.w.heap.size w w') (pin : Nat → Nat → Sz → Prop) (df : List Deferred) : Reb w0 (baseAt w' c pin df) := by
 have e := h.end_ m.ext
 refine ⟨⟨k.os.trans e.os, k.output.trans e.output, Nat.le_trans e.size k.size, fun i hi hx => (k.lo i hi).trans (e.block i hi hx), fun a ha => (k.frz a (Nat.lt_of_lt_of_le ha e.size)).trans (e.frz a ha)⟩, ?_⟩
 rintro b ⟨i, hi, rfl⟩
 rcases (m.fresh i hi).1 with q | q
 ·exact .inl (Nat.le_trans h.ext.size q)
 ·exact h.X _ q
structure Extn (w0 w1 : Base) (e : Nat) (o : Obj) : Prop where
 at_ : w1.w.heap[e]? = some o
 notX : ¬ w1.X e
 lo : w0.w.heap.size ≤ e
theorem Extn.now {S0 : Nat → Prop} {w0 w1 : Base} {bx : List Box} {c : Ctx} {w : World} {e : Nat} {o : Obj} (h : Extn w0 w1 e o) (m : Mem S0 w1 bx c w) : w.heap[e]? = some o ∧ ¬ ownB c e := by
 have hlt := (Array.getElem?_eq_some_iff.1 h.at_).1
 refine ⟨(m.ext.block e hlt h.notX).trans h.at_, ?_⟩
 rintro ⟨i, hi, rfl⟩
 rcases (m.fresh i hi).1 with q | q
 ·omega
 ·exact h.notX q
def markOf (D : Nat) : Deferred := { target := .collected D, args := #[] }
def keyV (q : IntKind) (l : List Int) : Value := .agg (l.map (Value.int q)).toArray
structure MapTy (P : Program) (m : MapC) : Prop where
 ex : ∃ e, WideMaps.ArrKey P m.kt e m.n ∧ P.underlying e = some (.int m.kk)
 size : ∃ k, P.types.size = k + 1
def MapOk (m : MapC) (o : Obj) : Prop := ∃ es clock, o = .map es clock ∧ (∀ e ∈ es.toList, ∃ l, l.length = m.n ∧ wfL m.kk l ∧ e.key = keyV m.kk l ∧ e.val = .bool true ∧ m.f l = true) ∧
 ∀ l, l.length = m.n → m.f l = true → ∃ e ∈ es.toList, e.key = keyV m.kk l
structure Out (P : Program) (w0 w1 : Base) (zl : List (Nat × Obj)) (Ds : List Nat) (mp : Option (Nat × MapC)) : Prop where
 reb : Reb w0 w1
 nd : Ds.Nodup
 ds : ∀ D ∈ Ds, Extn w0 w1 D (.deferred (some []))
 zs : ∀ z ∈ zl, Extn w0 w1 z.1 z.2
 mp : ∀ B m, mp = some (B, m) → MapTy P m ∧ ∃ o, MapOk m o ∧ Extn w0 w1 B o
 dis : ∀ z ∈ zl, z.1 ∉ Ds
def XSt (P : Program) (S0 : Nat → Prop) (w0 : Base) (pin : Nat → Nat → Sz → Prop) (zs : Option Ex → List (Nat × Obj)) (s : MS) (x : XS) (c : Ctx) (a : Act) (w : World) : Prop :=
 ∃ (w1 : Base) (Ds : List Nat), Out P w0 w1 (zs x.pe) Ds x.mp ∧ St S0 w1 s c a w ∧ (∀ i b z, pin i b z → w1.pin i b z) ∧ w1.df = Ds.map markOf
theorem Extn.move {S0 : Nat → Prop} {w0 w1 : Base} {bx : List Box} {c : Ctx} {w w' : World} {e : Nat} {o : Obj} (h : Extn w0 w1 e o) (m : Mem S0 w1 bx c w) (hw : w'.heap[e]? = w.heap[e]?) (pin : Nat → Nat → Sz → Prop) (df : List Deferred) : Extn w0 (baseAt w' c pin df) e o :=
 let ⟨h1, h2⟩ := h.now m
 ⟨hw.trans h1, h2, h.lo⟩
theorem MapOk.notCells {m : MapC} {o : Obj} (h : MapOk m o) : o.isCells = false := by
 obtain ⟨es, clock, rfl, _⟩ := h
 rfl
theorem Out.move {P : Program} {S0 : Nat → Prop} {w0 w1 : Base} {zl : List (Nat × Obj)} {Ds : List Nat} {mp : Option (Nat × MapC)} {bx : List Box} {c : Ctx} {w w' : World} (h : Out P w0 w1 zl Ds mp) (m : Mem S0 w1 bx c w) (k : Moved w0.w.heap.size w w')
  (he : ∀ e, e < w.heap.size → ¬ ownB c e → w'.heap[e]? = w.heap[e]?) (pin : Nat → Nat → Sz → Prop) (df : List Deferred) : Out P w0 (baseAt w' c pin df) zl Ds mp := by
 have hx : ∀ e o, Extn w0 w1 e o → Extn w0 (baseAt w' c pin df) e o := fun e o q => by
  have := q.now m
  exact q.move m (he e (Array.getElem?_eq_some_iff.1 this.1).1 this.2) pin df
 exact ⟨h.reb.move m k pin df, h.nd, fun D hD => hx _ _ (h.ds D hD), fun z hz => hx _ _ (h.zs z hz), fun B m hB => by
  obtain ⟨q1, o, q2, q3⟩ := h.mp B m hB
  exact ⟨q1, o, q2, hx _ _ q3⟩, h.dis⟩
theorem XSt.with_ {P : Program} {S0 : Nat → Prop} {w0 : Base} {pin : Nat → Nat → Sz → Prop} {zs : Option Ex → List (Nat × Obj)} {s : MS} {x : XS} {c : Ctx} {a : Act} {w : World} (h : XSt P S0 w0 pin zs s x c a w) :
  ∃ w1, St S0 w1 s c a w ∧ Reb w0 w1 ∧ ∀ s' c' a' w', St S0 w1 s' c' a' w' → XSt P S0 w0 pin zs s' x c' a' w' := by
 obtain ⟨w1, Ds, h1, h2, h3, h4⟩ := h
 exact ⟨w1, h2, h1.reb, fun s' c' a' w' hs => ⟨w1, Ds, h1, hs, h3, h4⟩⟩
theorem XSt.le {P : Program} {S0 : Nat → Prop} {w0 : Base} {pin : Nat → Nat → Sz → Prop} {zs : Option Ex → List (Nat × Obj)} {s t : MS} {x : XS} {q : Option (Nat × MapC)} {c : Ctx} {a : Act} {w : World} (h : XSt P S0 w0 pin zs s x c a w) (hle : leMS s t) (hx : leX x q) : ∃ c', XSt P S0 w0 pin zs t ⟨q, none⟩ c' a w := by
 obtain ⟨w1, Ds, h1, h2, h3, h4⟩ := h
 obtain ⟨c', h2'⟩ := h2.le hle
 unfold leX at hx
 split at hx
 ·exact hx.elim
 ·rename_i hpe
  refine ⟨c', w1, Ds, ⟨h1.reb, h1.nd, h1.ds, by rw [← hpe]; exact h1.zs, fun B m hBm => ?_, by rw [← hpe]; exact h1.dis⟩, h2', h3, h4⟩
  simp only at hBm
  subst hBm
  simp only at hx
  split at hx
  ·exact hx.elim
  ·rename_i B' m' hmp
   obtain ⟨rfl, e1, e2, e3, hf⟩ := hx
   obtain ⟨⟨⟨e, k1, k2⟩, k3⟩, o, ⟨es, clock, ho, o1, o2⟩, hext⟩ := h1.mp B' m' hmp
   rw [e1, e3] at k1
   rw [e2] at k2
   refine ⟨⟨⟨e, k1, k2⟩, k3⟩, o, ⟨es, clock, ho, fun y hy => ?_, fun l hl hfl => ?_⟩, hext⟩
   ·obtain ⟨l, q1, q2, q3, q4, q5⟩ := o1 y hy
    exact ⟨l, q1.trans e3, by rw [← e2]; exact q2, by rw [← e2]; exact q3, q4, by rw [← hf l (q1.trans e3)]; exact q5⟩
   ·obtain ⟨y, hy, hk⟩ := o2 l (hl.trans e3.symm) (by rw [hf l hl]; exact hfl)
    exact ⟨y, hy, by rw [← e2]; exact hk⟩
end Go.Proofs.YtnfmjlhkknndhaaGreat
/-
 The evaluator, part 7: the operations on a map run.
-/
namespace Go.Proofs.YtnfmjlhkknndhaaGreat
open Go Go.RowKit
theorem keyOf_ints {P : Program} {m : MapC} (hT : MapTy P m) {l : List Int} (hl : l.length = m.n) (hw : wfL m.kk l) : ∃ k, keyOf P m.kt (keyV m.kk l) = some k := by
 obtain ⟨⟨e, A, he⟩, hs⟩ := hT
 have hk := A.keyType hs
 obtain ⟨q, hq⟩ := hs
 have hq2 : P.types.size + 1 = q + 2 := by omega
 refine ⟨.string (keyBytes (l.map (Lit.int m.kk))), ?_⟩
 unfold keyOf
 rw [A.hu]
 simp only
 rw [if_pos (by simp [hk, Value.formed, keyV, A.hu, A.size, hl])]
 rw [show (keyV m.kk l).cells.toList = l.map (Value.int m.kk) from by simp [keyV, Value.cells], hq2, keyLits_ints A.hu he A.one A.size hl (wfL_mem hw) q]
 rfl
theorem valInt_inj {q : IntKind} : ∀ (a b : List Int), a.map (Value.int q) = b.map (Value.int q) → a = b
 | [], [], _ => rfl
 | [], _ :: _, h => by simp at h
 | _ :: _, [], h => by simp at h
 | x :: a, y :: b, h => by
  simp only [List.map_cons, List.cons.injEq, Value.int.injEq, true_and] at h
  rw [h.1, valInt_inj a b h.2]
theorem keyV_inj {q : IntKind} {a b : List Int} (h : keyV q a = keyV q b) : a = b := by
 simp only [keyV, Value.agg.injEq] at h
 exact valInt_inj a b (by simpa using congrArg Array.toList h)
theorem mapTy_spec {P : Program} {t kt : TypeId} {q : IntKind} {n : Nat} (h : mapTy P t = some (kt, q, n)) : ∃ et e, P.underlying t = some (.map kt et) ∧ P.underlying et = some .bool ∧ WideMaps.ArrKey P kt e n ∧ P.underlying e = some (.int q) ∧ (∃ k, P.types.size = k + 1) ∧ ∀ w, (zeroValue et).run P w = .ok (.bool false) w := by
 unfold mapTy at h
 split at h
 ·rename_i kt' et hu
  split at h
  ·rename_i hb
   split at h
   ·rename_i n' e hk
    split at h
    ·rename_i q' he
     cases hc : ((P.cellsOf e).beq 1 && (P.cellsOf kt').beq n' && (0).blt P.types.size && zeroFalse P et) with
     | false => rw [hc] at h; simp at h
     | true =>
      rw [hc] at h
      simp only [cond_true, Option.some.injEq, Prod.mk.injEq] at h
      obtain ⟨rfl, rfl, rfl⟩ := h
      simp only [Bool.and_eq_true, Nat.beq_eq, Nat.blt_eq] at hc
      obtain ⟨⟨⟨h1, h2⟩, h3⟩, h4⟩ := hc
      refine ⟨et, e, hu, hb, ⟨hk, by simp [Program.plainKey, he], h1, h2⟩, he, ⟨P.types.size - 1, by omega⟩, fun w => ?_⟩
      unfold zeroFalse at h4
      split at h4
      ·rename_i i hi
       split at h4
       ·rename_i v hv
        split at h4
        ·rename_i b
         simp only [Bool.not_eq_true'] at h4
         subst h4
         simp [zeroValue, typeInfo, hi, hv, Sem.run_bind, go_sem, Result.andThen]
        ·simp at h4
       ·simp at h4
      ·simp at h4
    ·simp at h
   ·simp at h
  ·simp at h
 ·simp at h
section
variable {P : Program} {m : MapC} {w : World} {B : Nat} {o : Obj} {l : List Int} {t : TypeId}
theorem map_find (hT : MapTy P m) (hm : MapOk m o) (hl : l.length = m.n) (hw : wfL m.kk l) : ∃ es clock, o = .map es clock ∧ (Instr.checkKey es.isEmpty 10000 m.kt (keyV m.kk l)).run P w = .ok () w ∧ (Instr.checkKey false 10000 m.kt (keyV m.kk l)).run P w = .ok () w ∧
  (((Instr.findKey m.kt (keyV m.kk l) es.toList).run P w = .ok none w ∧ m.f l = false) ∨ ∃ j e, (Instr.findKey m.kt (keyV m.kk l) es.toList).run P w = .ok (some (j, e.val)) w ∧ es[j]? = some e ∧ e.key = keyV m.kk l ∧ e.val = .bool true ∧ m.f l = true) := by
 obtain ⟨es, clock, rfl, h1, h2⟩ := hm
 obtain ⟨kl, hkl⟩ := keyOf_ints hT hl hw
 obtain ⟨⟨e, A, he⟩, hs⟩ := hT
 have K := A.law
 refine ⟨es, clock, rfl, K.check w _ hkl, K.check w _ hkl, ?_⟩
 have hall : ∀ x ∈ es.toList, ∃ l, keyOf P m.kt x.key = some l := by
  intro x hx
  obtain ⟨l', q1, q2, q3, _⟩ := h1 x hx
  rw [q3]
  exact keyOf_ints ⟨⟨e, A, he⟩, hs⟩ q1 q2
 rcases K.find w hkl es.toList hall with ⟨h3, h4⟩ | ⟨j, x, h3, h4, h5⟩
 ·refine .inl ⟨h3, ?_⟩
  cases hf : m.f l with
  | false => rfl
  | true =>
   obtain ⟨x, hx, hk⟩ := h2 l hl hf
   exact absurd hk (h4 x hx)
 ·have hx : x ∈ es.toList := List.mem_of_getElem? h4
  obtain ⟨l', q1, q2, q3, q4, q5⟩ := h1 x hx
  have : l' = l := keyV_inj (q3.symm.trans h5)
  subst this
  exact .inr ⟨j, x, h3, by simpa using h4, h5, q4, q5⟩
theorem run_lookup (hT : MapTy P m) (hm : MapOk m o) (hB : w.heap[B]? = some o) (hl : l.length = m.n) (hw : wfL m.kk l) {et : TypeId} (ht : P.underlying t = some (.map m.kt et)) (hz : (zeroValue et).run P w = .ok (.bool false) w) :
  (Instr.lookup t (.map (some B)) (keyV m.kk l) false).run P w = .ok (.bool (m.f l)) w := by
 obtain ⟨es, clock, rfl, h1, _, h2⟩ := map_find (P := P) (w := w) hT hm hl hw
 rcases h2 with ⟨h3, h4⟩ | ⟨j, e, h3, _, _, h6, h7⟩
 ·simp [Instr.lookup, run_underlying ht, MapKept.run_getObj_map hB, Sem.run_bind, Result.andThen, h1, h3, h4, hz]
 ·simp [Instr.lookup, run_underlying ht, MapKept.run_getObj_map hB, Sem.run_bind, Result.andThen, h1, h3, h6, h7]
theorem run_update (hT : MapTy P m) (hm : MapOk m o) (hB : w.heap[B]? = some o) (hl : l.length = m.n) (hw : wfL m.kk l) {et : TypeId} (ht : P.underlying t = some (.map m.kt et)) :
  ∃ o', (Instr.mapUpdate t (.map (some B)) (keyV m.kk l) (.bool true)).run P w = .ok () (w.putObj B o') ∧ MapOk (m.add l) o' := by
 have hm0 := hm
 obtain ⟨es, clock, rfl, _, h1, h2⟩ := map_find (P := P) (w := w) hT hm hl hw
 obtain ⟨es', clock', ho, g1, g2⟩ := hm0
 simp only [Obj.map.injEq] at ho
 obtain ⟨rfl, rfl⟩ := ho
 obtain ⟨kl, hkl⟩ := keyOf_ints hT hl hw
 have hst : (Instr.keyThatStays (keyV m.kk l) (keyV m.kk l)).run P w = .ok (keyV m.kk l) w := by
  obtain ⟨⟨e, A, he⟩, hs⟩ := hT
  exact A.law.stays w hkl
 have hadd : ∀ l', (m.add l).f l' = true ↔ l' = l ∨ m.f l' = true := fun l' => by simp [MapC.add, eqL_iff]
 rcases h2 with ⟨h3, h4⟩ | ⟨j, e, h3, h5, h6, h7, h8⟩
 ·refine ⟨.map (es.push { key := keyV m.kk l, val := .bool true, born := clock }) (clock + 1), ?_, _, _, rfl, ?_, ?_⟩
  ·simp [Instr.mapUpdate, run_underlying ht, MapKept.run_getObj_map hB, Sem.run_bind, Result.andThen, h1, h3, MapKept.run_setObj_map _ hB, World.putObj]
  ·intro x hx
   simp only [Array.toList_push, List.mem_append, List.mem_singleton] at hx
   rcases hx with hx | rfl
   ·obtain ⟨l', q1, q2, q3, q4, q5⟩ := g1 x hx
    exact ⟨l', q1, q2, q3, q4, (hadd l').2 (.inr q5)⟩
   ·exact ⟨l, hl, hw, rfl, rfl, (hadd l).2 (.inl rfl)⟩
  ·intro l' hl' hf
   rcases (hadd l').1 hf with rfl | hf
   ·exact ⟨⟨keyV m.kk l', .bool true, clock⟩, by simp, rfl⟩
   ·obtain ⟨x, hx, hk⟩ := g2 l' hl' hf
    exact ⟨x, by simp; exact .inl (by simpa using hx), hk⟩
 ·refine ⟨.map (es.modify j fun e => { e with key := keyV m.kk l, val := .bool true }) clock, ?_, _, _, rfl, ?_, ?_⟩
  ·simp [Instr.mapUpdate, run_underlying ht, MapKept.run_getObj_map hB, Sem.run_bind, Result.andThen, h1, h3, h5, h6, hst, MapKept.run_setObj_map _ hB, World.putObj]
  ·intro x hx
   obtain ⟨i, hi⟩ := List.mem_iff_getElem?.1 hx
   rw [Array.getElem?_toList, Array.getElem?_modify] at hi
   by_cases hij : j = i
   ·subst hij
    rw [if_pos rfl, h5] at hi
    simp only [Option.map_some, Option.some.injEq] at hi
    subst hi
    exact ⟨l, hl, hw, rfl, rfl, (hadd l).2 (.inl rfl)⟩
   ·rw [if_neg hij] at hi
    obtain ⟨l', q1, q2, q3, q4, q5⟩ := g1 x (by rw [← Array.getElem?_toList] at hi; exact List.mem_of_getElem? hi)
    exact ⟨l', q1, q2, q3, q4, (hadd l').2 (.inr q5)⟩
  ·intro l' hl' hf
   have hf : m.f l' = true := by
    rcases (hadd l').1 hf with rfl | hf
    ·exact h8
    ·exact hf
   obtain ⟨x, hx, hk⟩ := g2 l' hl' hf
   obtain ⟨i, hi⟩ := List.mem_iff_getElem?.1 hx
   rw [Array.getElem?_toList] at hi
   by_cases hij : j = i
   ·subst hij
    rw [h5, Option.some.injEq] at hi
    subst hi
    refine ⟨{ e with key := keyV m.kk l, val := .bool true }, List.mem_of_getElem? (i := j) ?_, ?_⟩
    ·rw [Array.getElem?_toList, Array.getElem?_modify, if_pos rfl, h5]; rfl
    ·exact h6.symm.trans hk
   ·refine ⟨x, List.mem_of_getElem? (i := i) ?_, hk⟩
    rw [Array.getElem?_toList, Array.getElem?_modify, if_neg hij]; exact hi
end
end Go.Proofs.YtnfmjlhkknndhaaGreat
/-
 The evaluator, part 8: rows of operations with maps, calls in place, calls of yield; code.
-/
namespace Go.Proofs.YtnfmjlhkknndhaaGreat
open Go Go.RowKit
structure Fw (F : Fence) (P : Program) : Prop where
 fn : ∀ f, F.fn f
 depth : F.depth = none
 sem : ∀ (o : Oper) (ρ : Operand → Value), (∀ c, o.op ≠ .defer c) → o.semAt F.round ρ = execOp ρ o
 calls : ∀ {n : Nat} {f : FuncId} {args : Array Value} {w : World} {R : Ending → World → Prop}, Calls P f args w R → CallsIn F n P f args w R
 rows : ∀ {n : Nat} {row : String} {args : Array Value} {w : World} {R : Value → World → Prop}, Rows P row args w R → RowsIn F n P row args w R
theorem fw_wide (P : Program) : Fw Fence.wide P :=
 ⟨fun _ => trivial, rfl, fun _ _ _ => rfl, fun h => callsIn_wide.2 h, fun h c cs _ => let ⟨v, w', r, s⟩ := h c cs; ⟨v, w', r, stepsIn_wide.2 s⟩⟩
theorem fw_round (P : Program) (l : Nat) : Fw (Fence.wide.inRound l) P :=
 ⟨fun _ => trivial, rfl, fun o ρ h => Oper.semAt_some l ρ o h, fun h => CallsIn.inRound l (callsIn_wide.2 h), fun h c cs _ => let ⟨v, w', r, s⟩ := h c cs; ⟨v, w', r, stepsIn_wide.2 s⟩⟩
section
variable {F : Fence} {P : Program} {m : Nat} {ops : Array Oper}
theorem wpListIn_of (hF : Fw F P) {Q Q1 : Exit → Act → World → Prop} (hQ1 : ∀ a w, ¬ Q1 .outgrown a w) (hp : ∀ ch a w, Q1 (.panic ch) a w → Q (.panic ch) a w) {rest : List Oper} (hr : ∀ a w, Q1 .normal a w → wpListIn F m P ops Q rest a w) :
  ∀ (l : List Oper) (a : Act) (w : World), (∀ o ∈ l, ∀ c, o.op ≠ .defer c) → wpList P ops Q1 l a w → wpListIn F m P ops Q (l ++ rest) a w
 | [], a, w, _, h => hr a w h
 | o :: r, a, w, hd, h => by
  have ih := wpListIn_of hF hQ1 hp hr r
  have hd' : ∀ o ∈ r, ∀ c, o.op ≠ .defer c := fun o ho => hd o (List.mem_cons_of_mem _ ho)
  have hdep : ¬ F.depth.isSome = true := by rw [hF.depth]; simp
  unfold wpList at h
  rw [List.cons_append]
  unfold wpListIn
  split at h
  ·rename_i hw
   rw [if_pos hw]
   rcases h with h | ⟨_, h⟩
   ·refine ⟨fun f _ => hF.fn f, ?_⟩
    rw [hF.sem _ _ (hd o (List.mem_cons_self ..))]
    unfold Oper.wp at h
    generalize (execOp a.eval o).run P w = res at h ⊢
    cases res with
    | ok nx w' =>
     cases nx with
     | value v => exact ih _ _ hd' h
     | skip => exact ih _ _ hd' h
     | defer d => exact ih _ _ hd' h
     | enter f args =>
      refine ⟨fun h => absurd h hdep, hF.calls (Calls.mono h ?_)⟩
      intro e w'' he
      cases e with
      | returned v => exact ih _ _ hd' he
      | panicked c => exact hp _ _ _ he
      | outgrown => exact (let ⟨a, w, q⟩ := he; (hQ1 a w q).elim)
     | row rw args =>
      refine ⟨fun h => absurd h hdep, hF.rows fun c cs => ?_⟩
      obtain ⟨v, w'', r', s⟩ := h c cs
      exact ⟨v, w'', ih _ _ hd' r', s⟩
     | round l f t x y => exact h.elim
     | _ => exact h.elim
    | halt hh w' =>
     cases hh
     all_goals first | exact hp _ _ _ h | exact h.elim
   ·exact (let ⟨a, w, q⟩ := h; (hQ1 a w q).elim)
  ·rename_i hw
   rw [if_neg hw]
   exact ⟨fun f _ => hF.fn f, ih _ _ hd' h⟩
theorem wpOpIn_of (hF : Fw F P) {Q : Exit → Act → World → Prop} (hQ : ∀ a w, ¬ Q .outgrown a w) {i : Nat} {K K' : Act → World → Prop} (hd : ∀ o, ops[i]? = some o → ∀ c, o.op ≠ .defer c) (hK : ∀ a w, K a w → K' a w) {a : Act} {w : World} (h : wpOp P ops Q i K a w) : wpOpIn F m P ops Q i K' a w := by
 have hdep : ¬ F.depth.isSome = true := by rw [hF.depth]; simp
 unfold wpOp at h
 unfold wpOpIn
 split at h
 ·rename_i hn
  simp only [hn]
  exact hK _ _ h
 ·rename_i o ho
  simp only [ho]
  split at h
  ·rename_i hw
   rw [if_pos hw]
   rcases h with h | ⟨_, h⟩
   ·refine ⟨fun f _ => hF.fn f, ?_⟩
    rw [hF.sem _ _ (hd o ho)]
    unfold Oper.wp at h
    generalize (execOp a.eval o).run P w = res at h ⊢
    cases res with
    | ok nx w' =>
     cases nx with
     | value v => exact hK _ _ h
     | skip => exact hK _ _ h
     | defer d => exact hK _ _ h
     | enter f args =>
      refine ⟨fun h => absurd h hdep, hF.calls (Calls.mono h ?_)⟩
      intro e w'' he
      cases e with
      | returned v => exact hK _ _ he
      | panicked c => exact he
      | outgrown => exact he
     | row rw args =>
      refine ⟨fun h => absurd h hdep, hF.rows fun c cs => ?_⟩
      obtain ⟨v, w'', r', s⟩ := h c cs
      exact ⟨v, w'', hK _ _ r', s⟩
     | round l f t x y => exact h.elim
     | _ => exact h.elim
    | halt hh w' =>
     cases hh <;> exact h
   ·exact (let ⟨a, w, q⟩ := h; (hQ a w q).elim)
  ·rename_i hw
   rw [if_neg hw]
   exact ⟨fun f _ => hF.fn f, hK _ _ h⟩
theorem wpAnyIn_of (hF : Fw F P) {md : Region.Mode} {Q : Exit → Act → World → Prop} (hQ : ∀ a w, ¬ Q .outgrown a w) (hd : ∀ (i : Nat) o, ops[i]? = some o → ∀ c, o.op ≠ .defer c) : ∀ (fuel : Nat) (listed : Array Bool) (a : Act) (w : World), wpAny P md ops Q fuel listed a w → wpAnyIn F m P md ops Q fuel listed a w
 | 0, _, _, _, h => h
 | fuel + 1, listed, a, w, h => ⟨h.1, fun i hi => wpOpIn_of hF hQ (hd i) (fun a' w' => wpAnyIn_of hF hQ hd fuel _ a' w') (h.2 i hi)⟩
theorem nd_ops {ops : Array Oper} (h : (ops.toList.all fun o => ndOp o.op) = true) : ∀ o ∈ ops.toList, ∀ c, o.op ≠ .defer c := fun o ho c e => by
 have := List.all_eq_true.1 h o ho
 rw [e] at this
 simp [ndOp] at this
theorem wpIn_of_reg (hmix : P.follows .mixedOrders = true) (hF : Fw F P) {Q : Exit → Act → World → Prop} (hQ : ∀ a w, ¬ Q .outgrown a w) (hd : (ops.toList.all fun o => ndOp o.op) = true) {draw : Bool} {id : Nat} {a : Act} {w : World} (h : RegWp P ops draw Q a w) : (Code.region id ops draw).wpIn F m P Q a w := by
 cases draw with
 | false =>
  refine wpIn_region_list ?_
  have := wpListIn_of (m := m) (rest := []) hF (Q := Q) hQ (fun _ _ _ h => h) (fun a w h => h) ops.toList a w (nd_ops hd) h
  rwa [List.append_nil] at this
 | true => exact wpIn_region_any hmix (wpAnyIn_of hF hQ (fun i o ho => nd_ops hd o (by have := List.mem_of_getElem? (l := ops.toList) (i := i) (a := o) (by simpa using ho); exact this)) _ _ _ _ h)
end
end Go.Proofs.YtnfmjlhkknndhaaGreat
/-
 The evaluator, part 9: one operation is right.
-/
namespace Go.Proofs.YtnfmjlhkknndhaaGreat
open Go Go.RowKit
theorem look_stay (np t : Nat) : ∀ (l : List (Nat × MV)), look t (stayTm np l) = stayM np (look t l)
 | [] => rfl
 | (u, m) :: r => by
  simp only [stayTm, look]
  cases u.beq t with
  | true => rfl
  | false => exact look_stay np t r
theorem stayM_rep {c c' : Ctx} {w w' : World} {np : Nat} (hk : ∀ i, i < np → c.live i → c'.live i ∧ c'.β i = c.β i ∧ c'.sz i = c.sz i) {m : MV} {v : Value} (h : Rep c w m v) : Rep c' w' (stayM np m) v := by
 cases m <;> try exact trivial
 case bool b => exact h
 case int k n => exact h
 case val u => exact h
 case bp i off =>
  simp only [stayM]
  cases hb : i.blt np with
  | false => exact trivial
  | true =>
   rw [Nat.blt_eq] at hb
   obtain ⟨h1, h2⟩ := rep_cell h rfl (by simp) rfl
   obtain ⟨q1, q2, _⟩ := hk i hb h1
   exact (rep1_iff rfl).2 ((rep1_cell rfl (by simp)).2 ⟨q1, by rw [q2]; exact h2⟩)
 case br i idx off =>
  simp only [stayM]
  cases hb : i.blt np with
  | false => exact trivial
  | true =>
   rw [Nat.blt_eq] at hb
   obtain ⟨h1, h2⟩ := rep_cell h rfl (by simp) rfl
   obtain ⟨q1, q2, q3⟩ := hk i hb h1
   exact (rep1_iff rfl).2 ((rep1_cell rfl (by simp)).2 ⟨q1, by rw [q2, q3]; exact h2⟩)
 case bs i off len =>
  simp only [stayM]
  cases hb : i.blt np with
  | false => exact trivial
  | true =>
   rw [Nat.blt_eq] at hb
   obtain ⟨a, cap, h1, h2, h3⟩ := rep_cell h rfl (by simp) rfl
   refine (rep1_iff rfl).2 ((rep1_cell rfl (by simp)).2 ⟨a, cap, h1, h2, h3.imp (fun ⟨h4, h5, h6⟩ => ?_) id⟩)
   obtain ⟨q1, q2, q3⟩ := hk i hb h5
   exact ⟨by rw [q2]; exact h4, q1, by rw [q3]; exact h6⟩
/-! ### BLOCKS OF WHICH LESS IS SAID -/
theorem nth_forget (i : Nat) : ∀ (l : List Box) (j k : Nat) (b' : Box), nth (forgetB i j l) k = some b' → ∃ b, nth l k = some b ∧ b.fz = b'.fz ∧ (b' = b ∨ ∃ m, b.c = .one m ∧ b'.c = .one (cond m.isAgg (.junk m.width) .any))
 | [], _, _, _, h => by simp [forgetB, nth] at h
 | b :: r, j, 0, b', h => by
  simp only [forgetB, nth, Option.some.injEq] at h
  refine ⟨b, rfl, ?_⟩
  cases hj : j.beq i with
  | true => rw [hj, cond_true] at h; subst h; exact ⟨rfl, .inl rfl⟩
  | false =>
   rw [hj, cond_false] at h
   split at h
   ·rename_i m hm
    cases hc : m.ment i with
    | true => rw [hc, cond_true] at h; subst h; exact ⟨rfl, .inr ⟨m, hm, rfl⟩⟩
    | false => rw [hc, cond_false] at h; subst h; exact ⟨rfl, .inl rfl⟩
   ·subst h; exact ⟨rfl, .inl rfl⟩
 | b :: r, j, k + 1, b', h => nth_forget i r (j + 1) k b' h
theorem forget_nth (i : Nat) : ∀ (l : List Box) (j k : Nat) (b : Box), nth l k = some b → ∃ b', nth (forgetB i j l) k = some b' ∧ b'.fz = b.fz
 | [], _, _, _, h => by simp [nth] at h
 | b :: r, j, 0, b', h => by
  simp only [nth, Option.some.injEq] at h
  subst h
  refine ⟨_, rfl, ?_⟩
  cases j.beq i with
  | true => rfl
  | false =>
   simp only [cond_false]
   split
   ·rename_i m _
    cases m.ment i <;> rfl
   ·rfl
 | b :: r, j, k + 1, b', h => forget_nth i r (j + 1) k b' h
theorem length_forget (i : Nat) : ∀ (l : List Box) (j : Nat), (forgetB i j l).length = l.length
 | [], _ => rfl
 | _ :: r, j => by simp [forgetB, length_forget i r (j + 1)]
theorem St.forget {S0 : Nat → Prop} {w0 : Base} {w : World} {s : MS} {c : Ctx} {a : Act} (h : St S0 w0 s c a w) (i : Nat) : St S0 w0 (s.forget i) c a w := by
 have hM := h.mem
 refine ⟨⟨hM.ext, hM.S0lt, hM.gl, hM.hS, fun b => ?_, hM.inj, fun j hj => ⟨(hM.fresh j hj).1, (hM.fresh j hj).2.1, by show j < (forgetB i 0 s.bx).length; rw [length_forget]; exact (hM.fresh j hj).2.2⟩, fun j b' hj hb => ?_, hM.pin⟩, h.tm, h.size, h.defers, h.np⟩
 ·rw [hM.hW]
  constructor
  ·rintro ⟨j, b0, h1, h2, h3, h4⟩
   obtain ⟨b', q1, q2⟩ := forget_nth i s.bx 0 j b0 h2
   exact ⟨j, b', h1, q1, q2.trans h3, h4⟩
  ·rintro ⟨j, b', h1, h2, h3, h4⟩
   obtain ⟨b0, q1, q2, _⟩ := nth_forget i s.bx 0 j b' h2
   exact ⟨j, b0, h1, q1, q2.trans h3, h4⟩
 ·obtain ⟨b0, q1, q2, q3⟩ := nth_forget i s.bx 0 j b' hb
  obtain ⟨arr, ty, r1, r2, r3, r4⟩ := hM.box j b0 hj q1
  rcases q3 with rfl | ⟨m, e1, e2⟩
  ·exact ⟨arr, ty, r1, r2, r3, r4⟩
  ·rw [e1] at r3 r4
   obtain ⟨cs, k1, k2⟩ := r4
   refine ⟨arr, ty, r1, r2, by rw [e2]; exact r3, ?_⟩
   rw [e2]
   refine ⟨cs, ?_, k2⟩
   cases hg : m.isAgg with
   | true => exact ⟨RepC.len _ _ k1, RepC.one _ _ k1⟩
   | false =>
    refine any_of_cell k1 ?_
    exact width_cell hg (fun ms e => by subst e; exact k1.elim)
/-! ### RUNS -/
theorem exec_yield {P : Program} {o : Oper} {c : Call} {g : Operand} {l : Nat} (ho : o.op = .call c) (hc : c.callee = .value g) {ρ : Operand → Value} (hg : ρ g = .func (.yield l) #[] #[]) (w : World) : (execOp ρ o).run P w = (Instr.yield l (c.args.map ρ)).run P w := by
 simp [execOp, ho, resolve, hc, Deferred.ofValue, hg, invoke]
theorem exec_enter {P : Program} {o : Oper} {c : Call} {g : Operand} {f : FuncId} (ho : o.op = .call c) (hc : c.callee = .value g) {ρ : Operand → Value} (hg : ρ g = .func (.func f) #[] #[]) (hcf : ∀ args w, (callFunc f args).run P w = .ok (.enter f args) w) (w : World) : (execOp ρ o).run P w = .ok (.enter f (c.args.map ρ)) w := by
 simp [execOp, ho, resolve, hc, Deferred.ofValue, hg, invoke, hcf]
theorem repAll_of {c : Ctx} {w : World} {s : MS} {a : Act} : ∀ (l : List Operand), (∀ x ∈ l, Rep c w (s.ev x) (a.eval x)) → ((l.map s.ev).all fun m => !m.isTup) = true → RepAll c w (l.map s.ev) (l.map a.eval)
 | [], _, _ => rfl
 | x :: l, h, ht => by
  simp only [List.map_cons, List.all_cons, Bool.and_eq_true, Bool.not_eq_true'] at ht
  exact ⟨_, _, rfl, (rep1_iff ht.1).1 (h x (by simp)), repAll_of l (fun y hy => h y (by simp [hy])) ht.2⟩
theorem St.at {S0 : Nat → Prop} {w1 : Base} {s : MS} {c : Ctx} {a : Act} {w w' : World} {N : Nat} (h : St S0 w1 s c a w) (k : Moved N w w') : St S0 (baseAt w' c w1.pin w1.df) s c a w' :=
 ⟨h.mem.moved k w1.pin w1.df h.mem.pin, fun t => (h.tm t).moved k, h.size, h.defers, h.np⟩
structure YSnd (F : Fence) (n : Nat) (P : Program) (S0 : Nat → Prop) (w0 : Base) (pin : Nat → Nat → Sz → Prop) (zs : Option Ex → List (Nat × Obj)) (H : Hnd) : Prop where
 h : ∀ (args : List MV) (s : MS) (mp : Option (Nat × MapC)) (c : Ctx) (a : Act) (w : World) (vs : List Value) kN kX, H.yh args s ⟨mp, none⟩ kN kX → XSt P S0 w0 pin zs s ⟨mp, none⟩ c a w → RepAll c w args vs →
  ∃ f0 tmps assign body, (Instr.yield H.L vs.toArray).run P w = .ok (.round H.L f0 tmps assign body) w ∧ RoundIn F n P H.L f0 tmps assign body w (fun e w' =>
   (e = .returned (.bool true) ∧ ∃ bx mp' c', kN bx mp' ∧ XSt P S0 w0 pin zs ⟨s.n, stayTm s.np s.tm, bx, s.np⟩ ⟨mp', none⟩ c' a w') ∨
   (e = .returned (.bool false) ∧ ∃ e' bx mp' c', kX e' bx mp' ∧ XSt P S0 w0 pin zs ⟨s.n, stayTm s.np s.tm, bx, s.np⟩ ⟨mp', some e'⟩ c' a w'))
theorem XSt.putO {P : Program} {S0 : Nat → Prop} {w0 : Base} {pin : Nat → Nat → Sz → Prop} {zs : Option Ex → List (Nat × Obj)} {s : MS} {x : XS} {c : Ctx} {a : Act} {w : World} (h : XSt P S0 w0 pin zs s x c a w) {t : Option Nat} {m : MV} {v : Value} (ht : dstOk t s.n = true) (hr : Rep c w m v) :
  XSt P S0 w0 pin zs (s.putO t m) x c (a.put t v) w := by
 obtain ⟨w1, h1, _, h3⟩ := h.with_
 exact h3 _ _ _ _ (h1.putO ht hr)
theorem XSt.tm {P : Program} {S0 : Nat → Prop} {w0 : Base} {pin : Nat → Nat → Sz → Prop} {zs : Option Ex → List (Nat × Obj)} {s : MS} {x : XS} {c : Ctx} {a : Act} {w : World} (h : XSt P S0 w0 pin zs s x c a w) (y : Operand) : Rep c w (s.ev y) (a.eval y) := by
 obtain ⟨w1, h1, _, _⟩ := h.with_
 exact (opnds_of_tmps (l := [y]) fun t _ => h1.tm t) y (by simp)
theorem key_spec {P : Program} {t : TypeId} {mv kv : MV} {x : XS} {p : Prop} {B : Nat} {m : MapC} {l : List Int} (h : mapKey? P t mv kv x = some (p, B, m, l)) (hp : p) : mv = .val (.map (some B)) ∧ x.mp = some (B, m) ∧ wfL m.kk l ∧ l.length = m.n ∧
  ∃ ms, kv = .st ms ∧ arrInts m.kk ms = some l ∧ ∃ et, P.underlying t = some (.map m.kt et) ∧ ∀ w, (zeroValue et).run P w = .ok (.bool false) w := by
 unfold mapKey? at h
 split at h
 ·split at h
  ·split at h
   ·rename_i B0
    split at h
    ·rename_i B' m' hmp
     split at h
     ·rename_i kt q n hty
      split at h
      ·rename_i ms
       split at h
       ·rename_i l' hl'
        cases hc : l'.length.beq n with
        | false => rw [hc] at h; simp at h
        | true =>
         rw [hc] at h
         simp only [cond_true, Option.some.injEq, Prod.mk.injEq] at h
         obtain ⟨rfl, rfl, rfl, rfl⟩ := h
         obtain ⟨⟨rfl, e1, e2, e3⟩, hw⟩ := hp
         simp only [Nat.beq_eq] at hc
         obtain ⟨et, e, k1, _, _, _, _, k6⟩ := mapTy_spec hty
         exact ⟨rfl, hmp, by rw [e2]; exact hw, by rw [e3]; exact hc, ms, rfl, by rw [e2]; exact hl', et, by rw [e1]; exact k1, k6⟩
       ·simp at h
      ·simp at h
     ·simp at h
    ·simp at h
   ·simp at h
  ·simp at h
 ·simp at h
theorem key_val {c : Ctx} {w : World} {q : IntKind} {ms : List MV} {l : List Int} {v : Value} (h : arrInts q ms = some l) (hr : Rep c w (.st ms) v) : v = keyV q l := by
 obtain ⟨cs, h1, h2⟩ := (rep1_agg rfl).1 ((rep1_iff rfl).1 hr)
 rw [h1, keyV, ← intsOf_rep _ _ _ h h2]
end Go.Proofs.YtnfmjlhkknndhaaGreat
/-
 The evaluator, part 10: rows of operations, regions, code are right.
-/
namespace Go.Proofs.YtnfmjlhkknndhaaGreat
open Go Go.RowKit
section
variable {F : Fence} {P : Program} {n : Nat} {S0 : Nat → Prop} {w0 : Base} {pin : Nat → Nat → Sz → Prop} {zs : Option Ex → List (Nat × Obj)} {H : Hnd} {X : XE P}
def XOp.callK : XOp → Bool
 | .mk _ => false
 | .look _ _ _ => false
 | .upd _ _ _ _ => false
 | _ => true
theorem xopCall_kind {s : MS} {c : Call} : (xopCall X s c).callK = true := by
 unfold xopCall
 split
 ·split
  ·split
   ·split
    ·exact Bool.rec (motive := fun b => (cond b (XOp.yield _ _) XOp.plain).callK = true) rfl rfl _
    ·rfl
   ·rfl
  ·split
   ·exact Bool.rec (motive := fun b => (cond b (XOp.inl _ _) XOp.plain).callK = true) rfl rfl _
   ·rfl
  ·rfl
 ·split
  ·split
   ·split <;> rfl
   ·rfl
  ·rfl
 ·rfl
theorem xop_mk {s : MS} {o : Op} {t : TypeId} (h : xop X s o = .mk t) : o = .makeMap t none := by
 unfold xop at h
 split at h
 ·split at h
  ·simp only [XOp.mk.injEq] at h; subst h; rfl
  ·simp at h
 ·rename_i t m k ok; cases ok <;> simp at h
 ·simp at h
 ·have := xopCall_kind (X := X) (s := s) (c := by assumption)
  rw [h] at this
  simp [XOp.callK] at this
 ·simp at h
theorem xop_look {s : MS} {o : Op} {t : TypeId} {m k : MV} (h : xop X s o = .look t m k) : ∃ m' k', o = .lookup t m' k' false ∧ m = s.ev m' ∧ k = s.ev k' := by
 unfold xop at h
 split at h
 ·split at h <;> simp at h
 ·rename_i t m k ok
  cases ok with
  | true => simp at h
  | false =>
   simp only [cond_false, XOp.look.injEq] at h
   obtain ⟨rfl, rfl, rfl⟩ := h
   exact ⟨_, _, rfl, rfl, rfl⟩
 ·simp at h
 ·have := xopCall_kind (X := X) (s := s) (c := by assumption)
  rw [h] at this
  simp [XOp.callK] at this
 ·simp at h
theorem xop_upd {s : MS} {o : Op} {t : TypeId} {m k v : MV} (h : xop X s o = .upd t m k v) : ∃ m' k' v', o = .mapUpdate t m' k' v' ∧ m = s.ev m' ∧ k = s.ev k' ∧ v = s.ev v' := by
 unfold xop at h
 split at h
 ·split at h <;> simp at h
 ·rename_i t m k ok; cases ok <;> simp at h
 ·simp only [XOp.upd.injEq] at h
  obtain ⟨rfl, rfl, rfl, rfl⟩ := h
  exact ⟨_, _, _, rfl, rfl, rfl, rfl⟩
 ·have := xopCall_kind (X := X) (s := s) (c := by assumption)
  rw [h] at this
  simp [XOp.callK] at this
 ·simp at h
theorem xop_call {s : MS} {o : Op} {l : Nat} {args : List MV} (h : xop X s o = .yield l args ∨ xop X s o = .inl l args) : ∃ c g, o = .call c ∧ c.callee = .value g ∧ args = c.args.toList.map s.ev ∧
  ((xop X s o = .yield l args ∧ s.ev g = .val (.func (.yield l) #[] #[])) ∨ (xop X s o = .inl l args ∧ s.ev g = .fn l [])) := by
 have h0 := h
 unfold xop at h
 split at h
 ·split at h <;> simp at h
 ·rename_i t m k ok; cases ok <;> simp at h
 ·simp at h
 ·rename_i c
  unfold xopCall at h
  split at h
  ·rename_i g hg
   split at h
   ·rename_i v hv
    split at h
    ·rename_i fn a b
     split at h
     ·rename_i l'
      cases hc : (a.size.beq 0 && b.size.beq 0) with
      | false => rw [hc] at h; simp at h
      | true =>
       rw [hc] at h
       simp only [cond_true, XOp.yield.injEq, reduceCtorEq, or_false] at h
       obtain ⟨rfl, rfl⟩ := h
       simp only [Bool.and_eq_true, Nat.beq_eq] at hc
       have ha : a = #[] := Array.eq_empty_of_size_eq_zero hc.1
       have hb : b = #[] := Array.eq_empty_of_size_eq_zero hc.2
       subst ha; subst hb
       refine ⟨c, g, rfl, hg, rfl, .inl ⟨?_, hv⟩⟩
       rcases h0 with h0 | h0
       ·exact h0
       ·exfalso
        simp only [xop, xopCall, hg, hv] at h0
        simp at h0
     ·simp at h
    ·simp at h
   ·rename_i f caps hv
    split at h
    ·cases hc : inlIs X f with
     | false => rw [hc] at h; simp at h
     | true =>
      rw [hc] at h
      simp only [cond_true, XOp.inl.injEq, reduceCtorEq, false_or] at h
      obtain ⟨rfl, rfl⟩ := h
      refine ⟨c, g, rfl, hg, rfl, .inr ⟨?_, hv⟩⟩
      rcases h0 with h0 | h0
      ·exfalso
       simp only [xop, xopCall, hg, hv, hc] at h0
       simp at h0
      ·exact h0
    ·simp at h
   ·simp at h
  ·split at h
   ·split at h
    ·split at h <;> simp at h
    ·simp at h
   ·simp at h
  ·simp at h
 ·simp at h
variable {ops : Array Oper} {Q : Exit → Act → World → Prop} {rest : List Oper}
theorem step_plain (hF : Fw F P) {E : Env P} {o : Oper} (hnd : ∀ c, o.op ≠ .defer c) {s : MS} {x : XS} {c : Ctx} {a : Act} {w : World} {K : MS → XS → Prop} (h : evSeq E ops.toList (fun _ => False) [o] s (fun s' => K s' x)) (hs : XSt P S0 w0 pin zs s x c a w)
  (hK : ∀ s' x' c' a' w', K s' x' → XSt P S0 w0 pin zs s' x' c' a' w' → wpListIn F n P ops Q rest a' w') : wpListIn F n P ops Q (o :: rest) a w := by
 obtain ⟨w1, hst, hreb, hback⟩ := hs.with_
 have := evSeq_sound (Q := fun e a' w' => match e with | .normal => ∃ s' c', K s' x ∧ St S0 w1 s' c' a' w' | _ => False) (ops := ops) (w0 := w1) (fun m v w' a' hk _ _ _ => hk.elim) [o] s _ c a w h hst (fun s' c' a' w' q1 q2 _ => ⟨s', c', q1, q2⟩)
 exact wpListIn_of hF (fun a w q => q) (fun ch a w q => q.elim) (fun a' w' ⟨s', c', q1, q2⟩ => hK s' x c' a' w' q1 (hback _ _ _ _ q2)) [o] a w (by simpa using hnd) this
theorem step_value (hF : Fw F P) {o : Oper} (hnd : ∀ c, o.op ≠ .defer c) (hg : o.guard = none) {a : Act} {w w' : World} {v : Value} (hrun : (execOp a.eval o).run P w = .ok (.value v) w') (h : wpListIn F n P ops Q rest (a.put o.dst v) w') : wpListIn F n P ops Q (o :: rest) a w := by
 unfold wpListIn
 rw [if_pos (by simp [Region.wanted, hg])]
 refine ⟨fun f _ => hF.fn f, ?_⟩
 rw [hF.sem _ _ hnd, hrun, Oper.uponIn_value]
 exact h
theorem inl_sound (hmix : P.follows .mixedOrders = true) {ie : ItE P} {args : List MV} {s : MS} {x : XS} {c : Ctx} {a : Act} {w : World} {K : MV → List Box → Prop} (h : evInl ie args s K) (hs : XSt P S0 w0 pin zs s x c a w) {vs : Array Value} (hv : RepAll c w args vs.toList) :
  Calls P ie.f vs w fun e w' => ∃ v m bx c', e = .returned v ∧ K m bx ∧ Rep c' w' m v ∧ XSt P S0 w0 pin zs ⟨s.n, stayTm s.bx.length s.tm, bx, s.np⟩ x c' a w' := by
 unfold evInl at h
 split at h
 ·rename_i body hb
  split at h
  ·rename_i t hres
   cases hl : args.length.ble ie.fn.ntmps with
   | false => rw [hl] at h; exact h.elim
   | true =>
    rw [hl, cond_true] at h
    have hle : args.length ≤ ie.fn.ntmps := Nat.le_of_ble_eq_true hl
    have hlen := repAll_length _ _ hv
    simp only [Array.length_toList] at hlen
    obtain ⟨w1, Ds, hO, hst, hp, hdf⟩ := hs
    have hM := hst.mem
    generalize hpa : (fun (i : Nat) (b : Nat) (z : Sz) => c.live i ∧ c.β i = b ∧ c.sz i = z) = pa
    have hpa' : ∀ i b z, pa i b z → c.live i ∧ c.β i = b ∧ c.sz i = z := by subst hpa; exact fun _ _ _ h => h
    have k0 := Moved.refl w0.w.heap.size w
    have hst2 : St S0 (baseAt w c pa []) ⟨ie.fn.ntmps, numbered 0 args, s.bx, s.bx.length⟩ c { tmps := vs ++ Array.replicate (ie.fn.ntmps - vs.size) undef, defers := [] } w := by
     refine ⟨hM.moved k0 pa [] hpa', fun t => ?_, by simp; omega, rfl, fun i b z q => (hM.fresh i (hpa' i b z q).1).2.2⟩
     have := (look_numbered args vs.toList 0 hv t).2 (Nat.zero_le _)
     rw [Nat.sub_zero] at this
     have e : (vs ++ Array.replicate (ie.fn.ntmps - vs.size) undef).getD t undef = vs.toList.getD t undef := by
      simp only [Array.getD_eq_getD_getElem?, Array.getElem?_append, List.getD_eq_getElem?_getD, Array.getElem?_toList]
      split
      ·rfl
      ·rename_i hge
       rw [Array.getElem?_replicate, Array.getElem?_eq_none (by omega : vs.size ≤ t)]
       split <;> rfl
     rw [e]
     exact this
    have hO2 := hO.move hM k0 (fun e _ _ => rfl) pa []
    refine calls_of_wp ie.hf hb (evCode_sound hmix body _ _ c _ w _ h hst2 (fun e s' c' a' w' hk hst' => ?_) (fun m v w' a' hk => hk.elim))
    have fin : K (look t s'.tm) s'.bx → ∃ v, (results ie.fn a'.tmps).run P w' = .ok v w' ∧ ∃ v' m bx c'', Ending.returned v = .returned v' ∧ K m bx ∧ Rep c'' w' m v' ∧ XSt P S0 w0 pin zs ⟨s.n, stayTm s.bx.length s.tm, bx, s.np⟩ x c'' a w' := by
     intro hk
     refine ⟨a'.tmps.getD t undef, ?_, _, look t s'.tm, s'.bx, c', rfl, hk, hst'.tm t, ?_⟩
     ·rw [results_eq, Array.mapM_eq_mapM_toList, hres]
      simp [resF]
     ·have hM' := hst'.mem
      have hkeep : ∀ i, i < s.bx.length → c.live i → c'.live i ∧ c'.β i = c.β i ∧ c'.sz i = c.sz i := fun i _ hi => hM'.pin i (c.β i) (c.sz i) (by subst hpa; exact ⟨hi, rfl, rfl⟩)
      have k1 : Moved w0.w.heap.size w' w' := Moved.refl _ _
      have hpin' : ∀ i b z, w1.pin i b z → c'.live i ∧ c'.β i = b ∧ c'.sz i = z := fun i b z q => by
       obtain ⟨q1, q2, q3⟩ := hM.pin i b z q
       obtain ⟨r1, r2, r3⟩ := hkeep i (hM.fresh i q1).2.2 q1
       exact ⟨r1, r2.trans q2, r3.trans q3⟩
      refine ⟨baseAt w' c' w1.pin w1.df, Ds, hO2.move hM' k1 (fun e _ _ => rfl) w1.pin w1.df, ⟨hM'.moved k1 w1.pin w1.df hpin', fun u => ?_, hst.size, hst.defers, hst.np⟩, hp, hdf⟩
      rw [look_stay]
      exact stayM_rep hkeep (hst.tm u)
    cases e with
    | normal =>
     obtain ⟨v, q1, q2⟩ := fin hk
     exact ⟨hst'.defers, v, q1, q2⟩
    | ret =>
     obtain ⟨v, q1, q2⟩ := fin hk
     exact ⟨hst'.defers, v, q1, q2⟩
    | exit id => exact hk.elim
  ·exact h.elim
 ·exact h.elim
theorem findIt_spec {f : Nat} {ie : ItE P} : ∀ {l : List (ItE P)}, findIt f l = some ie → ie.f = f
 | [], h => by simp [findIt] at h
 | c :: r, h => by
  simp only [findIt] at h
  cases hc : c.f.beq f with
  | true => rw [hc, cond_true, Option.some.injEq] at h; subst h; simpa using hc
  | false => rw [hc, cond_false] at h; exact findIt_spec h
theorem step_ok (hmix : P.follows .mixedOrders = true) (hF : Fw F P) (hY : YSnd F (n - 1) P S0 w0 pin zs H) (hz : ∀ pe z, z ∈ zs pe → z.2.isWalk = false) {o : Oper} (hnd : ∀ c, o.op ≠ .defer c) {s : MS} {x : XS} {c : Ctx} {a : Act} {w : World} {K : MS → XS → Prop}
  (h : evStepX X H ops.toList o s x K) (hs : XSt P S0 w0 pin zs s x c a w)
  (hK : ∀ s' x' c' a' w', K s' x' → XSt P S0 w0 pin zs s' x' c' a' w' → wpListIn F n P ops Q rest a' w') : wpListIn F n P ops Q (o :: rest) a w := by
 have hdep : ¬ F.depth.isSome = true := by rw [hF.depth]; simp
 unfold evStepX at h
 split at h
 ·exact step_plain hF hnd h hs hK
 ·rename_i i _
  obtain ⟨w1, hst, _, hback⟩ := hs.with_
  exact step_plain hF hnd h (hback _ _ _ _ (hst.forget i)) hK
 ·split at h
  ·exact h.elim
  ·rename_i hg
   cases hdd : dstOk o.dst s.n with
   | false => rw [hdd] at h; exact h.elim
   | true =>
    rw [hdd, cond_true] at h
    split at h
    ·
     rename_i t hx
     split at h
     ·rename_i kt q n' hty
      split at h
      ·rename_i hmp
       have ho := xop_mk hx
       obtain ⟨et, e, _, _, k3, k4, k5, _⟩ := mapTy_spec hty
       have hrun : (execOp a.eval o).run P w = .ok (.value (.map (some w.heap.size))) (w.alloc (.map #[] 0)) := by
        simp [execOp, ho, Instr.makeMap, Result.andThen]
       refine step_value hF hnd hg hrun (hK _ _ c _ _ (h w.heap.size) ?_)
       obtain ⟨w1, Ds, hO, hst, hp, hdf⟩ := hs
       have hN : w0.w.heap.size ≤ w.heap.size := Nat.le_trans hO.reb.ext.size hst.mem.ext.size
       have k := Moved.alloc hN (.map #[] 0)
       have hO2 := hO.move hst.mem k (fun e he _ => Below.heap_alloc w _ e he) w1.pin w1.df
       refine ⟨_, Ds, ⟨hO2.reb, hO2.nd, hO2.ds, hO2.zs, fun B m hBm => ?_, hO2.dis⟩, (hst.at k).putO hdd ((rep1_iff rfl).2 ((rep1_cell rfl (by simp)).2 ⟨rfl, rfl⟩)), hp, hdf⟩
       simp only [Option.some.injEq, Prod.mk.injEq] at hBm
       obtain ⟨rfl, rfl⟩ := hBm
       refine ⟨⟨⟨e, k3, k4⟩, k5⟩, _, ⟨#[], 0, rfl, fun y hy => by simp at hy, fun l _ hf => by simp at hf⟩, World.alloc_heap_new w _, ?_, hN⟩
       rintro ⟨i, hi, he⟩
       have := (hst.mem.fresh i hi).2.1
       omega
      ·exact h.elim
     ·exact h.elim
    ·
     rename_i t m kv hx
     split at h
     ·rename_i p B mm l hkey
      obtain ⟨hp, h⟩ := h
      obtain ⟨m', k', ho, rfl, rfl⟩ := xop_look hx
      obtain ⟨q1, q2, q3, q4, ms, q5, q6, et, q7, q8⟩ := key_spec hkey hp
      have r1 := hs.tm m'
      have r2 := hs.tm k'
      rw [q1] at r1
      rw [q5] at r2
      obtain ⟨w1, Ds, hO, hst, hp, hdf⟩ := id hs
      obtain ⟨hT, ob, hmo, hext⟩ := hO.mp B mm q2
      have hnow := (hext.now hst.mem).1
      have hrun : (execOp a.eval o).run P w = .ok (.value (.bool (mm.f l))) w := by
       have := run_lookup (P := P) (w := w) hT hmo hnow q4 q3 q7 (q8 w)
       rw [← key_val q6 r2, ← (rep_val r1).1] at this
       simp [execOp, ho, this, Sem.run_bind, Result.andThen]
      exact step_value hF hnd hg hrun (hK _ _ c _ _ h (hs.putO hdd (mk_bool _)))
     ·exact h.elim
    ·
     rename_i t m kv v hx
     split at h
     ·rename_i p B mm l hkey
      split at h
      ·rename_i b
       split at h
       ·rename_i hdst
        obtain ⟨⟨hp, hb⟩, h⟩ := h
        subst hb
        obtain ⟨m', k', v', ho, e1, e2, e3⟩ := xop_upd hx
        subst e1 e2
        obtain ⟨q1, q2, q3, q4, ms, q5, q6, et, q7, q8⟩ := key_spec hkey hp
        have r1 := hs.tm m'
        have r2 := hs.tm k'
        have r3 := hs.tm v'
        rw [q1] at r1
        rw [q5] at r2
        rw [← e3] at r3
        obtain ⟨w1, Ds, hO, hst, hp, hdf⟩ := hs
        obtain ⟨hT, ob, hmo, hext⟩ := hO.mp B mm q2
        obtain ⟨hnow, hnown⟩ := hext.now hst.mem
        obtain ⟨o', hu, hmo'⟩ := run_update (P := P) (w := w) hT hmo hnow q4 q3 q7
        have hrun : (execOp a.eval o).run P w = .ok .skip (w.putObj B o') := by
         rw [← key_val q6 r2, ← (rep_val r1).1, ← rep_bool r3] at hu
         simp [execOp, ho, hu, Sem.run_bind, Result.andThen]
        unfold wpListIn
        rw [if_pos (by simp [Region.wanted, hg])]
        refine ⟨fun f _ => hF.fn f, ?_⟩
        rw [hF.sem _ _ hnd, hrun, Oper.uponIn_skip, hdst]
        have hlt := (Array.getElem?_eq_some_iff.1 hnow).1
        have k := Moved.put (N := w0.w.heap.size) hnow hext.lo hmo.notCells hmo'.notCells
        have hne : ∀ e ob', Extn w0 w1 e ob' → ob'.isWalk = false → e ≠ B := fun e ob' q hw hh => by
         subst hh
         have := (q.now hst.mem).1
         rw [hnow, Option.some.injEq] at this
         obtain ⟨es, clock, he, _⟩ := hmo
         rw [← this, he] at hw
         simp [Obj.isWalk] at hw
        refine hK _ _ c _ _ h ⟨baseAt (w.putObj B o') c w1.pin w1.df, Ds, ⟨hO.reb.move hst.mem k w1.pin w1.df, hO.nd, fun D hD => (hO.ds D hD).move hst.mem (World.putObj_heap_other (hne D _ (hO.ds D hD) rfl)) _ _, fun z hzz => (hO.zs z hzz).move hst.mem (World.putObj_heap_other (hne _ _ (hO.zs z hzz) (hz _ z hzz))) _ _, fun B' m' hBm => ?_, hO.dis⟩, hst.at k, hp, hdf⟩
        simp only [Option.some.injEq, Prod.mk.injEq] at hBm
        obtain ⟨rfl, rfl⟩ := hBm
        exact ⟨⟨hT.ex, hT.size⟩, o', hmo', World.putObj_heap_same hlt, hnown, hext.lo⟩
       ·exact h.elim
      ·exact h.elim
     ·exact h.elim
    ·
     rename_i l args hx
     cases hta : (args.all fun m => !m.isTup) with
     | false => rw [hta] at h; exact h.elim
     | true =>
      rw [hta, cond_true] at h
      split at h
      ·rename_i hpe
       obtain ⟨rfl, h⟩ := h
       obtain ⟨cc, g, ho, hc, rfl, hh⟩ := xop_call (.inl hx)
       rcases hh with ⟨_, hev⟩ | ⟨hh, _⟩
       ·have hgv : a.eval g = .func (.yield H.L) #[] #[] := by
         have := hs.tm g
         rw [hev] at this
         exact (rep_val this).1
        have hall := repAll_of (c := c) (w := w) (s := s) (a := a) cc.args.toList (fun y _ => hs.tm y) hta
        have hx2 : x = ⟨x.mp, none⟩ := by cases x; simp only at hpe; subst hpe; rfl
        rw [hx2] at h hs
        obtain ⟨f0, tmps, assign, body, hyr, hR⟩ := hY.h _ s x.mp c a w _ _ _ h hs hall
        have eargs : (cc.args.toList.map a.eval).toArray = cc.args.map a.eval := by apply Array.ext'; simp
        rw [eargs] at hyr
        unfold wpListIn
        rw [if_pos (by simp [Region.wanted, hg])]
        refine ⟨fun f _ => hF.fn f, ?_⟩
        rw [hF.sem _ _ hnd, exec_yield ho hc hgv, hyr, Oper.uponIn_round]
        refine ⟨fun h => absurd h hdep, hR.mono fun e w' he => ?_⟩
        rcases he with ⟨rfl, bx, mp', c', q1, q2⟩ | ⟨rfl, e', bx, mp', c', q1, q2⟩
        ·exact hK _ _ c' _ _ q1 (q2.putO hdd (mk_bool _))
        ·exact hK _ _ c' _ _ q1 (q2.putO hdd (mk_bool _))
       ·rw [hh] at hx; simp at hx
      ·exact h.elim
    ·
     rename_i f args hx
     cases hta : (args.all fun m => !m.isTup) with
     | false => rw [hta] at h; exact h.elim
     | true =>
      rw [hta, cond_true] at h
      split at h
      ·rename_i ie hie
       have hf := findIt_spec hie
       obtain ⟨cc, g, ho, hc, rfl, hh⟩ := xop_call (.inr hx)
       rcases hh with ⟨hh, _⟩ | ⟨_, hev⟩
       ·rw [hh] at hx; simp at hx
       ·have hgv : a.eval g = .func (.func f) #[] #[] := by
         have := hs.tm g
         rw [hev] at this
         obtain ⟨cs, h1, h2, _⟩ := rep_cell this rfl (by simp) rfl
         have h2 : cs = [] := h2
         subst h2
         simpa using h1
        have hall := repAll_of (c := c) (w := w) (s := s) (a := a) cc.args.toList (fun y _ => hs.tm y) hta
        have eargs : (cc.args.toList.map a.eval).toArray = cc.args.map a.eval := by apply Array.ext'; simp
        have hC := inl_sound hmix h hs (vs := cc.args.map a.eval) (by rw [← eargs]; exact hall)
        unfold wpListIn
        rw [if_pos (by simp [Region.wanted, hg])]
        refine ⟨fun f _ => hF.fn f, ?_⟩
        rw [hF.sem _ _ hnd, exec_enter ho hc hgv (hf ▸ ie.hc), Oper.uponIn_enter]
        refine ⟨fun h => absurd h hdep, hF.calls (hf ▸ hC.mono ?_)⟩
        rintro e w' ⟨v, m, bx, c', rfl, q1, q2, q3⟩
        exact hK _ _ c' _ _ q1 (q3.putO hdd q2)
      ·exact h.elim
    ·exact h.elim
end
end Go.Proofs.YtnfmjlhkknndhaaGreat
