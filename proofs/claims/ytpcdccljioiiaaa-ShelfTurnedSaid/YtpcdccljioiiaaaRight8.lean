/- Right of any record: the program's and the document's. -/
import Derived.Laws.Closers25b
import Derived.Test.YtpcdccljioiiaaaShelfM
import Derived.Test.YtpcdccljioiiaaaNums
import Derived.Test.YtpcdccljioiiaaaEngT
namespace Go.Proofs.Ytpcdccljioiiaaa
open Go.RowKit

theorem empty_toList : (⟨#[]⟩ : ByteArray).toList = [] := by rw [ByteArray.toList_eq]
theorem empty_size (s : ByteArray) : (s.toList == (⟨#[]⟩ : ByteArray).toList) = (bif false then (s.size : Int) == 16 else (s.size : Int) == 0) := by
  rw [cond_false, empty_toList]
  by_cases h : s.size = 0
  · obtain rfl := size_zero.1 h
    rw [show noText.toList = [] from empty_toList]
    rfl
  · have e : (s.toList == []) = false := beq_eq_false_iff_ne.2 (fun e => h (size_zero.2 ((toList_nil_iff_emptyBytes s).1 e)))
    rw [e, beq_eq_false_iff_ne.2 (by omega)]
theorem fit8_s1 (s : ByteArray) (u : Bool) (w : World) : Res.prune [0, 4, 5] [] (exec Try.prog (bodyOf Try.f30) 11 12 [⟨false, 0, []⟩, ⟨false, 0, []⟩] [.code []] ⟨[(0, .string s), (1, .bool u)], [], [], w.heap.size⟩) = some ⟨[], dupR [], [.code [1, 0, 1], .code [1, 1]], ⟨[(0, .string s), (4, .bool false), (5, .bool u)], [], [], w.heap.size⟩⟩ := by kernel_rfl
theorem fit8_s2 (s : ByteArray) (u : Bool) (w : World) : Res.prune [0, 4] [] (exec Try.prog (bodyOf Try.f30) 11 11 [⟨true, 0, []⟩, ⟨false, 0, []⟩, ⟨false, 0, []⟩, ⟨false, 0, []⟩, ⟨false, 0, []⟩] [.code [1, 0, 1], .code [1, 1]] ⟨[(0, .string s), (4, .bool false), (5, .bool u)], [], [], w.heap.size⟩) = some ⟨[u = true], dupR [], [.code [1, 0, 1, 0, 1], .code [1, 1]], ⟨[(0, .string s), (4, .bool ((s.size : Int) == 16))], [], [], w.heap.size⟩⟩ := by kernel_rfl
theorem fit8_r3 (s : ByteArray) : resL Try.prog [] [] [(0, .string s), (4, .bool ((s.size : Int) == 16))] Try.f30.results.toList [] = some ([.bool ((s.size : Int) == 16)], dupR []) := by kernel_rfl
theorem fit8_s4 (s : ByteArray) (u : Bool) (w : World) : Res.prune [4] [] (exec Try.prog (bodyOf Try.f30) 11 11 [⟨false, 0, []⟩, ⟨false, 0, []⟩, ⟨false, 0, []⟩, ⟨false, 0, []⟩] [.code [1, 0, 1], .code [1, 1]] ⟨[(0, .string s), (4, .bool false), (5, .bool u)], [], [], w.heap.size⟩) = some ⟨[u = false], dupR [], [.code [1, 1, 1]], ⟨[(4, .bool (ByteArray.toList s == ByteArray.toList ⟨#[]⟩))], [], [], w.heap.size⟩⟩ := by kernel_rfl
theorem fit8_r5 (s : ByteArray) : resL Try.prog [] [] [(4, .bool (ByteArray.toList s == ByteArray.toList ⟨#[]⟩))] Try.f30.results.toList [] = some ([.bool (ByteArray.toList s == ByteArray.toList ⟨#[]⟩)], dupR []) := by kernel_rfl
set_option maxRecDepth 100000 in
set_option maxHeartbeats 4000000 in
theorem fits_any (s : ByteArray) (u : Bool) (w : World) :
    Calls Try.prog 30 #[.string s, .bool u] w (RetK (.bool (fitB s u)) w) := by
  refine calls_of_holds (S := (fun _ => False)) (l := [.string s, .bool u]) (n := 11) Try.func30 (body_of (by kernel_rfl)) rfl (by simp) (MemOk.none w _) ?_
  refine holds_go _ _ (fit8_s1 s u w) trivial ?_
  rcases Bool.eq_false_or_eq_true (u) with d1 | d1
  · skip
    refine holds_go _ _ (fit8_s2 s u w) ⟨d1, trivial⟩ ?_
    refine holds_ret [] (by kernel_rfl) (fit8_r3 s) ?_
    intro wx hm
    refine ⟨ret_bool ?_, hm.kept⟩
    unfold fitB
    rw [d1]
    rfl
  · skip
    refine holds_go _ _ (fit8_s4 s u w) ⟨d1, trivial⟩ ?_
    refine holds_ret [] (by kernel_rfl) (fit8_r5 s) ?_
    intro wx hm
    refine ⟨ret_bool ?_, hm.kept⟩
    unfold fitB
    rw [d1]
    exact empty_size s

theorem not_turned {w W : World} {S : Nat → Prop} {bk : List Bk} {wn : List Wn} {z D : Nat} {ds : List Deferred} (hm : MemOk w S bk wn z W) (hD : W.heap[D]? = some (.deferred (some ds))) : ¬ Turned bk D := by
  rintro ⟨b, hb, _, he⟩
  have h1 := hm.blk b hb
  unfold Blk at h1
  rw [he, hD] at h1
  cases h1
theorem range_kept {w W w' : World} {S S' : Nat → Prop} {bk : List Bk} {wn : List Wn} {z : Nat} (hm : MemOk w S bk wn z W) (hk : Kept S' W w') (hs : ∀ k, k < w.heap.size → S' k → S k) : Kept S w w' := hm.kept.trans hk hs
theorem MemOk.here {w0 w : World} {S : Nat → Prop} {bk : List Bk} {wn : List Wn} {sz : Nat} (hm : MemOk w0 S bk wn sz w) : MemOk w0 S bk wn w.heap.size w := by
  have h := hm.size
  subst h
  exact hm
def numV (r : RecM) : Nat → Int
  | 0 => r.fence
  | 1 => r.de
  | 2 => r.ds
  | 3 => r.ie
  | _ => r.is
theorem numV_is (r : RecM) (x : Nat) : (numOff x = 1 ∧ numV r x = r.fence) ∨ (numOff x = 2 ∧ numV r x = r.de) ∨ (numOff x = 3 ∧ numV r x = r.ds) ∨ (numOff x = 6 ∧ numV r x = r.ie) ∨ (numOff x = 7 ∧ numV r x = r.is) := by
  match x with
  | 0 => exact .inl ⟨rfl, rfl⟩
  | 1 => exact .inr (.inl ⟨rfl, rfl⟩)
  | 2 => exact .inr (.inr (.inl ⟨rfl, rfl⟩))
  | 3 => exact .inr (.inr (.inr (.inl ⟨rfl, rfl⟩)))
  | _ + 4 => exact .inr (.inr (.inr (.inr ⟨rfl, rfl⟩)))
theorem n24_not {n : Int} (h : n < 0 ∨ n > 16777215) : n24 n = false := by
  cases e : n24 n with
  | false => rfl
  | true =>
    have := (n24_iff n).1 e
    omega
theorem all_snoc {p : Nat → Prop} {pre : List Nat} {x : Nat} (h : ∀ y ∈ pre, p y) (hx : p x) : ∀ y ∈ pre ++ [x], p y := by
  intro y hy
  rcases List.mem_append.1 hy with h1 | h1
  · exact h y h1
  · obtain rfl := List.mem_singleton.1 h1
    exact hx
theorem okB_nums {r : RecM} {x : Nat} (h : n24 (numV r x) = false) : okB r = false := by
  rcases numV_is r x with ⟨_, e⟩ | ⟨_, e⟩ | ⟨_, e⟩ | ⟨_, e⟩ | ⟨_, e⟩ <;> rw [e] at h <;> simp [okB, h]

def sr_v1 (r : RecM) : List Value := [.bool r.used, .int .i64 r.fence, .int .i64 r.de, .int .i64 r.ds, .string r.block, .bool r.op, .int .i64 r.ie, .int .i64 r.is, .int .i64 r.mask, .string r.staged]
theorem sr_s1 (r : RecM) (w : World) : Res.prune [1, 2] [] (exec Try.prog (bodyOf Try.f14) 67 11 [⟨false, 0, []⟩, ⟨false, 0, []⟩] [.code []] ⟨[(0, .agg (List.toArray (sr_v1 r)))], [], [], w.heap.size⟩) = some ⟨[], dupR [], [.ops [1, 0, 0] [0], .code [1, 0, 1], .code [1, 1]], ⟨[(1, .pointer (some ⟨w.heap.size, 0, none⟩)), (2, .pointer (some ⟨w.heap.size + 1, 0, none⟩))], [⟨w.heap.size, 25, true, (sr_v1 r)⟩, ⟨w.heap.size + 1, 4, true, [.bool false]⟩], [], w.heap.size + 2⟩⟩ := by kernel_rfl
theorem sr_c2 (w : World) : callAt Try.prog (opsOf (getCode (bodyOf Try.f14) [1, 0, 0])) [(1, .pointer (some ⟨w.heap.size, 0, none⟩)), (2, .pointer (some ⟨w.heap.size + 1, 0, none⟩))] 0 = some (23, [.pointer (some ⟨w.heap.size, 0, none⟩)], some 5, []) := by kernel_rfl
theorem sr_s3 (r : RecM) (w : World) (z2 : Nat) : Res.prune [1, 2, 5] [] (exec Try.prog (bodyOf Try.f14) 67 5 [] [.ops [1, 0, 0] [], .code [1, 0, 1], .code [1, 1]] ⟨[(5, .func (.func 39) #[] #[.pointer (some ⟨w.heap.size + 2, 0, none⟩)]), (1, .pointer (some ⟨w.heap.size, 0, none⟩)), (2, .pointer (some ⟨w.heap.size + 1, 0, none⟩))], [⟨w.heap.size, 25, true, (sr_v1 r)⟩, ⟨w.heap.size + 1, 4, true, [.bool false]⟩, ⟨w.heap.size + 2, 60, false, [.pointer (some ⟨w.heap.size, 0, none⟩)]⟩], [], z2⟩) = some ⟨[], dupR [], [.code [1, 0, 1, 0], .blk 0, .code [1, 1]], ⟨[(1, .pointer (some ⟨w.heap.size, 0, none⟩)), (2, .pointer (some ⟨w.heap.size + 1, 0, none⟩)), (5, .func (.func 39) #[] #[.pointer (some ⟨w.heap.size + 2, 0, none⟩)])], [⟨w.heap.size, 25, true, (sr_v1 r)⟩, ⟨w.heap.size + 1, 4, true, [.bool false]⟩, ⟨w.heap.size + 2, 60, false, [.pointer (some ⟨w.heap.size, 0, none⟩)]⟩], [], z2⟩⟩ := by kernel_rfl
theorem sr_s4 (w : World) (W : World) (x : Nat) : Res.prune [3, 6, 1, 2, 5] [] (exec Try.prog (bodyOf Try.f14) 67 6 [⟨false, 0, []⟩] [.code [1, 0, 1, 0, 0]] ⟨[(6, .pointer (some ⟨w.heap.size, numOff x, none⟩)), (1, .pointer (some ⟨w.heap.size, 0, none⟩)), (2, .pointer (some ⟨w.heap.size + 1, 0, none⟩)), (5, .func (.func 39) #[] #[.pointer (some ⟨w.heap.size + 2, 0, none⟩)])], [], [], W.heap.size⟩) = some ⟨[], dupR [], [], ⟨[(3, .pointer (some ⟨w.heap.size, numOff x, none⟩)), (6, .pointer (some ⟨w.heap.size, numOff x, none⟩)), (1, .pointer (some ⟨w.heap.size, 0, none⟩)), (2, .pointer (some ⟨w.heap.size + 1, 0, none⟩)), (5, .func (.func 39) #[] #[.pointer (some ⟨w.heap.size + 2, 0, none⟩)])], [], [], W.heap.size⟩⟩ := by kernel_rfl
theorem sr_s5 (r : RecM) (w : World) (Z : Nat) : Res.prune [2] [] (exec Try.prog (bodyOf Try.f14) 67 22 [⟨false, 0, []⟩, ⟨false, 0, []⟩, ⟨false, 0, [⟨false, 0, 1, 1⟩]⟩, ⟨false, 0, []⟩, ⟨false, 0, []⟩, ⟨true, 0, []⟩, ⟨true, 0, []⟩, ⟨true, 0, []⟩, ⟨true, 0, []⟩, ⟨false, 2, []⟩, ⟨true, 0, []⟩, ⟨false, 0, [⟨false, 1, 0, 1⟩]⟩] [.code [1, 0, 1, 0, 1]] ⟨[(3, .pointer (some ⟨w.heap.size, 1, none⟩)), (6, .pointer (some ⟨w.heap.size, 1, none⟩)), (1, .pointer (some ⟨w.heap.size, 0, none⟩)), (2, .pointer (some ⟨w.heap.size + 1, 0, none⟩)), (5, .func (.func 39) #[] #[.pointer (some ⟨w.heap.size + 2, 0, none⟩)])], [⟨w.heap.size, 25, true, (sr_v1 r)⟩, ⟨w.heap.size + 1, 4, true, [.bool false]⟩, ⟨w.heap.size + 2, 60, false, [.pointer (some ⟨w.heap.size, 0, none⟩)]⟩], [], Z⟩) = some ⟨[(decide ((r.fence : Int) < 0)) = true, (decide ((r.fence : Int) < 0)) = true, (decide ((r.fence : Int) < 0)) = true, (decide ((r.fence : Int) < 0)) = true, (decide ((r.fence : Int) < 0)) = true, true = true], dupR [(w.heap.size, 1, 1), (w.heap.size + 1, 0, 1)], [.code [1, 0, 1, 0, 1, 0, 1, 0, 1], .blk 1], ⟨[(2, .pointer (some ⟨w.heap.size + 1, 0, none⟩))], [⟨w.heap.size, 25, true, (sr_v1 r)⟩, ⟨w.heap.size + 1, 4, true, [.bool false]⟩, ⟨w.heap.size + 2, 60, false, [.pointer (some ⟨w.heap.size, 0, none⟩)]⟩], [], Z⟩⟩ := by kernel_rfl
theorem sr_s6 (r : RecM) (w : World) (Z : Nat) : Res.prune [2] [] (exec Try.prog (bodyOf Try.f14) 67 22 [⟨false, 0, []⟩, ⟨false, 0, []⟩, ⟨false, 0, [⟨false, 0, 1, 1⟩]⟩, ⟨false, 0, []⟩, ⟨false, 0, []⟩, ⟨false, 0, []⟩, ⟨false, 0, []⟩, ⟨false, 0, [⟨false, 0, 1, 1⟩]⟩, ⟨false, 0, []⟩, ⟨false, 3, []⟩, ⟨true, 0, []⟩, ⟨false, 0, [⟨false, 1, 0, 1⟩]⟩] [.code [1, 0, 1, 0, 1]] ⟨[(3, .pointer (some ⟨w.heap.size, 1, none⟩)), (6, .pointer (some ⟨w.heap.size, 1, none⟩)), (1, .pointer (some ⟨w.heap.size, 0, none⟩)), (2, .pointer (some ⟨w.heap.size + 1, 0, none⟩)), (5, .func (.func 39) #[] #[.pointer (some ⟨w.heap.size + 2, 0, none⟩)])], [⟨w.heap.size, 25, true, (sr_v1 r)⟩, ⟨w.heap.size + 1, 4, true, [.bool false]⟩, ⟨w.heap.size + 2, 60, false, [.pointer (some ⟨w.heap.size, 0, none⟩)]⟩], [], Z⟩) = some ⟨[(decide ((r.fence : Int) < 0)) = false, (decide ((r.fence : Int) < 0)) = false, (decide ((r.fence : Int) < 0)) = false, (decide ((r.fence : Int) < 0)) = false, (decide ((r.fence : Int) < 0)) = false, (decide ((r.fence : Int) > 16777215)) = true], dupR [(w.heap.size, 1, 1), (w.heap.size, 1, 1), (w.heap.size + 1, 0, 1)], [.code [1, 0, 1, 0, 1, 0, 1, 0, 1], .blk 1], ⟨[(2, .pointer (some ⟨w.heap.size + 1, 0, none⟩))], [⟨w.heap.size, 25, true, (sr_v1 r)⟩, ⟨w.heap.size + 1, 4, true, [.bool false]⟩, ⟨w.heap.size + 2, 60, false, [.pointer (some ⟨w.heap.size, 0, none⟩)]⟩], [], Z⟩⟩ := by kernel_rfl
theorem sr_s7 (r : RecM) (w : World) (Z : Nat) : Res.prune [2] [] (exec Try.prog (bodyOf Try.f14) 67 20 [⟨false, 0, []⟩, ⟨false, 0, []⟩, ⟨false, 0, [⟨false, 0, 1, 1⟩]⟩, ⟨false, 0, []⟩, ⟨false, 0, []⟩, ⟨false, 0, []⟩, ⟨false, 0, []⟩, ⟨false, 0, [⟨false, 0, 1, 1⟩]⟩, ⟨false, 0, []⟩, ⟨false, 3, []⟩, ⟨false, 0, []⟩] [.code [1, 0, 1, 0, 1]] ⟨[(3, .pointer (some ⟨w.heap.size, 1, none⟩)), (6, .pointer (some ⟨w.heap.size, 1, none⟩)), (1, .pointer (some ⟨w.heap.size, 0, none⟩)), (2, .pointer (some ⟨w.heap.size + 1, 0, none⟩)), (5, .func (.func 39) #[] #[.pointer (some ⟨w.heap.size + 2, 0, none⟩)])], [⟨w.heap.size, 25, true, (sr_v1 r)⟩, ⟨w.heap.size + 1, 4, true, [.bool false]⟩, ⟨w.heap.size + 2, 60, false, [.pointer (some ⟨w.heap.size, 0, none⟩)]⟩], [], Z⟩) = some ⟨[(decide ((r.fence : Int) < 0)) = false, (decide ((r.fence : Int) < 0)) = false, (decide ((r.fence : Int) < 0)) = false, (decide ((r.fence : Int) < 0)) = false, (decide ((r.fence : Int) < 0)) = false, (decide ((r.fence : Int) > 16777215)) = false], dupR [(w.heap.size, 1, 1), (w.heap.size, 1, 1)], [], ⟨[(2, .pointer (some ⟨w.heap.size + 1, 0, none⟩))], [⟨w.heap.size, 25, true, (sr_v1 r)⟩, ⟨w.heap.size + 1, 4, true, [.bool false]⟩, ⟨w.heap.size + 2, 60, false, [.pointer (some ⟨w.heap.size, 0, none⟩)]⟩], [], Z⟩⟩ := by kernel_rfl
theorem sr_s8 (r : RecM) (w : World) (Z : Nat) : Res.prune [2] [] (exec Try.prog (bodyOf Try.f14) 67 22 [⟨false, 0, []⟩, ⟨false, 0, []⟩, ⟨false, 0, [⟨false, 0, 2, 1⟩]⟩, ⟨false, 0, []⟩, ⟨false, 0, []⟩, ⟨true, 0, []⟩, ⟨true, 0, []⟩, ⟨true, 0, []⟩, ⟨true, 0, []⟩, ⟨false, 2, []⟩, ⟨true, 0, []⟩, ⟨false, 0, [⟨false, 1, 0, 1⟩]⟩] [.code [1, 0, 1, 0, 1]] ⟨[(3, .pointer (some ⟨w.heap.size, 2, none⟩)), (6, .pointer (some ⟨w.heap.size, 2, none⟩)), (1, .pointer (some ⟨w.heap.size, 0, none⟩)), (2, .pointer (some ⟨w.heap.size + 1, 0, none⟩)), (5, .func (.func 39) #[] #[.pointer (some ⟨w.heap.size + 2, 0, none⟩)])], [⟨w.heap.size, 25, true, (sr_v1 r)⟩, ⟨w.heap.size + 1, 4, true, [.bool false]⟩, ⟨w.heap.size + 2, 60, false, [.pointer (some ⟨w.heap.size, 0, none⟩)]⟩], [], Z⟩) = some ⟨[(decide ((r.de : Int) < 0)) = true, (decide ((r.de : Int) < 0)) = true, (decide ((r.de : Int) < 0)) = true, (decide ((r.de : Int) < 0)) = true, (decide ((r.de : Int) < 0)) = true, true = true], dupR [(w.heap.size, 2, 1), (w.heap.size + 1, 0, 1)], [.code [1, 0, 1, 0, 1, 0, 1, 0, 1], .blk 1], ⟨[(2, .pointer (some ⟨w.heap.size + 1, 0, none⟩))], [⟨w.heap.size, 25, true, (sr_v1 r)⟩, ⟨w.heap.size + 1, 4, true, [.bool false]⟩, ⟨w.heap.size + 2, 60, false, [.pointer (some ⟨w.heap.size, 0, none⟩)]⟩], [], Z⟩⟩ := by kernel_rfl
theorem sr_s9 (r : RecM) (w : World) (Z : Nat) : Res.prune [2] [] (exec Try.prog (bodyOf Try.f14) 67 22 [⟨false, 0, []⟩, ⟨false, 0, []⟩, ⟨false, 0, [⟨false, 0, 2, 1⟩]⟩, ⟨false, 0, []⟩, ⟨false, 0, []⟩, ⟨false, 0, []⟩, ⟨false, 0, []⟩, ⟨false, 0, [⟨false, 0, 2, 1⟩]⟩, ⟨false, 0, []⟩, ⟨false, 3, []⟩, ⟨true, 0, []⟩, ⟨false, 0, [⟨false, 1, 0, 1⟩]⟩] [.code [1, 0, 1, 0, 1]] ⟨[(3, .pointer (some ⟨w.heap.size, 2, none⟩)), (6, .pointer (some ⟨w.heap.size, 2, none⟩)), (1, .pointer (some ⟨w.heap.size, 0, none⟩)), (2, .pointer (some ⟨w.heap.size + 1, 0, none⟩)), (5, .func (.func 39) #[] #[.pointer (some ⟨w.heap.size + 2, 0, none⟩)])], [⟨w.heap.size, 25, true, (sr_v1 r)⟩, ⟨w.heap.size + 1, 4, true, [.bool false]⟩, ⟨w.heap.size + 2, 60, false, [.pointer (some ⟨w.heap.size, 0, none⟩)]⟩], [], Z⟩) = some ⟨[(decide ((r.de : Int) < 0)) = false, (decide ((r.de : Int) < 0)) = false, (decide ((r.de : Int) < 0)) = false, (decide ((r.de : Int) < 0)) = false, (decide ((r.de : Int) < 0)) = false, (decide ((r.de : Int) > 16777215)) = true], dupR [(w.heap.size, 2, 1), (w.heap.size, 2, 1), (w.heap.size + 1, 0, 1)], [.code [1, 0, 1, 0, 1, 0, 1, 0, 1], .blk 1], ⟨[(2, .pointer (some ⟨w.heap.size + 1, 0, none⟩))], [⟨w.heap.size, 25, true, (sr_v1 r)⟩, ⟨w.heap.size + 1, 4, true, [.bool false]⟩, ⟨w.heap.size + 2, 60, false, [.pointer (some ⟨w.heap.size, 0, none⟩)]⟩], [], Z⟩⟩ := by kernel_rfl
theorem sr_s10 (r : RecM) (w : World) (Z : Nat) : Res.prune [2] [] (exec Try.prog (bodyOf Try.f14) 67 20 [⟨false, 0, []⟩, ⟨false, 0, []⟩, ⟨false, 0, [⟨false, 0, 2, 1⟩]⟩, ⟨false, 0, []⟩, ⟨false, 0, []⟩, ⟨false, 0, []⟩, ⟨false, 0, []⟩, ⟨false, 0, [⟨false, 0, 2, 1⟩]⟩, ⟨false, 0, []⟩, ⟨false, 3, []⟩, ⟨false, 0, []⟩] [.code [1, 0, 1, 0, 1]] ⟨[(3, .pointer (some ⟨w.heap.size, 2, none⟩)), (6, .pointer (some ⟨w.heap.size, 2, none⟩)), (1, .pointer (some ⟨w.heap.size, 0, none⟩)), (2, .pointer (some ⟨w.heap.size + 1, 0, none⟩)), (5, .func (.func 39) #[] #[.pointer (some ⟨w.heap.size + 2, 0, none⟩)])], [⟨w.heap.size, 25, true, (sr_v1 r)⟩, ⟨w.heap.size + 1, 4, true, [.bool false]⟩, ⟨w.heap.size + 2, 60, false, [.pointer (some ⟨w.heap.size, 0, none⟩)]⟩], [], Z⟩) = some ⟨[(decide ((r.de : Int) < 0)) = false, (decide ((r.de : Int) < 0)) = false, (decide ((r.de : Int) < 0)) = false, (decide ((r.de : Int) < 0)) = false, (decide ((r.de : Int) < 0)) = false, (decide ((r.de : Int) > 16777215)) = false], dupR [(w.heap.size, 2, 1), (w.heap.size, 2, 1)], [], ⟨[(2, .pointer (some ⟨w.heap.size + 1, 0, none⟩))], [⟨w.heap.size, 25, true, (sr_v1 r)⟩, ⟨w.heap.size + 1, 4, true, [.bool false]⟩, ⟨w.heap.size + 2, 60, false, [.pointer (some ⟨w.heap.size, 0, none⟩)]⟩], [], Z⟩⟩ := by kernel_rfl
theorem sr_s11 (r : RecM) (w : World) (Z : Nat) : Res.prune [2] [] (exec Try.prog (bodyOf Try.f14) 67 22 [⟨false, 0, []⟩, ⟨false, 0, []⟩, ⟨false, 0, [⟨false, 0, 3, 1⟩]⟩, ⟨false, 0, []⟩, ⟨false, 0, []⟩, ⟨true, 0, []⟩, ⟨true, 0, []⟩, ⟨true, 0, []⟩, ⟨true, 0, []⟩, ⟨false, 2, []⟩, ⟨true, 0, []⟩, ⟨false, 0, [⟨false, 1, 0, 1⟩]⟩] [.code [1, 0, 1, 0, 1]] ⟨[(3, .pointer (some ⟨w.heap.size, 3, none⟩)), (6, .pointer (some ⟨w.heap.size, 3, none⟩)), (1, .pointer (some ⟨w.heap.size, 0, none⟩)), (2, .pointer (some ⟨w.heap.size + 1, 0, none⟩)), (5, .func (.func 39) #[] #[.pointer (some ⟨w.heap.size + 2, 0, none⟩)])], [⟨w.heap.size, 25, true, (sr_v1 r)⟩, ⟨w.heap.size + 1, 4, true, [.bool false]⟩, ⟨w.heap.size + 2, 60, false, [.pointer (some ⟨w.heap.size, 0, none⟩)]⟩], [], Z⟩) = some ⟨[(decide ((r.ds : Int) < 0)) = true, (decide ((r.ds : Int) < 0)) = true, (decide ((r.ds : Int) < 0)) = true, (decide ((r.ds : Int) < 0)) = true, (decide ((r.ds : Int) < 0)) = true, true = true], dupR [(w.heap.size, 3, 1), (w.heap.size + 1, 0, 1)], [.code [1, 0, 1, 0, 1, 0, 1, 0, 1], .blk 1], ⟨[(2, .pointer (some ⟨w.heap.size + 1, 0, none⟩))], [⟨w.heap.size, 25, true, (sr_v1 r)⟩, ⟨w.heap.size + 1, 4, true, [.bool false]⟩, ⟨w.heap.size + 2, 60, false, [.pointer (some ⟨w.heap.size, 0, none⟩)]⟩], [], Z⟩⟩ := by kernel_rfl
theorem sr_s12 (r : RecM) (w : World) (Z : Nat) : Res.prune [2] [] (exec Try.prog (bodyOf Try.f14) 67 22 [⟨false, 0, []⟩, ⟨false, 0, []⟩, ⟨false, 0, [⟨false, 0, 3, 1⟩]⟩, ⟨false, 0, []⟩, ⟨false, 0, []⟩, ⟨false, 0, []⟩, ⟨false, 0, []⟩, ⟨false, 0, [⟨false, 0, 3, 1⟩]⟩, ⟨false, 0, []⟩, ⟨false, 3, []⟩, ⟨true, 0, []⟩, ⟨false, 0, [⟨false, 1, 0, 1⟩]⟩] [.code [1, 0, 1, 0, 1]] ⟨[(3, .pointer (some ⟨w.heap.size, 3, none⟩)), (6, .pointer (some ⟨w.heap.size, 3, none⟩)), (1, .pointer (some ⟨w.heap.size, 0, none⟩)), (2, .pointer (some ⟨w.heap.size + 1, 0, none⟩)), (5, .func (.func 39) #[] #[.pointer (some ⟨w.heap.size + 2, 0, none⟩)])], [⟨w.heap.size, 25, true, (sr_v1 r)⟩, ⟨w.heap.size + 1, 4, true, [.bool false]⟩, ⟨w.heap.size + 2, 60, false, [.pointer (some ⟨w.heap.size, 0, none⟩)]⟩], [], Z⟩) = some ⟨[(decide ((r.ds : Int) < 0)) = false, (decide ((r.ds : Int) < 0)) = false, (decide ((r.ds : Int) < 0)) = false, (decide ((r.ds : Int) < 0)) = false, (decide ((r.ds : Int) < 0)) = false, (decide ((r.ds : Int) > 16777215)) = true], dupR [(w.heap.size, 3, 1), (w.heap.size, 3, 1), (w.heap.size + 1, 0, 1)], [.code [1, 0, 1, 0, 1, 0, 1, 0, 1], .blk 1], ⟨[(2, .pointer (some ⟨w.heap.size + 1, 0, none⟩))], [⟨w.heap.size, 25, true, (sr_v1 r)⟩, ⟨w.heap.size + 1, 4, true, [.bool false]⟩, ⟨w.heap.size + 2, 60, false, [.pointer (some ⟨w.heap.size, 0, none⟩)]⟩], [], Z⟩⟩ := by kernel_rfl
theorem sr_s13 (r : RecM) (w : World) (Z : Nat) : Res.prune [2] [] (exec Try.prog (bodyOf Try.f14) 67 20 [⟨false, 0, []⟩, ⟨false, 0, []⟩, ⟨false, 0, [⟨false, 0, 3, 1⟩]⟩, ⟨false, 0, []⟩, ⟨false, 0, []⟩, ⟨false, 0, []⟩, ⟨false, 0, []⟩, ⟨false, 0, [⟨false, 0, 3, 1⟩]⟩, ⟨false, 0, []⟩, ⟨false, 3, []⟩, ⟨false, 0, []⟩] [.code [1, 0, 1, 0, 1]] ⟨[(3, .pointer (some ⟨w.heap.size, 3, none⟩)), (6, .pointer (some ⟨w.heap.size, 3, none⟩)), (1, .pointer (some ⟨w.heap.size, 0, none⟩)), (2, .pointer (some ⟨w.heap.size + 1, 0, none⟩)), (5, .func (.func 39) #[] #[.pointer (some ⟨w.heap.size + 2, 0, none⟩)])], [⟨w.heap.size, 25, true, (sr_v1 r)⟩, ⟨w.heap.size + 1, 4, true, [.bool false]⟩, ⟨w.heap.size + 2, 60, false, [.pointer (some ⟨w.heap.size, 0, none⟩)]⟩], [], Z⟩) = some ⟨[(decide ((r.ds : Int) < 0)) = false, (decide ((r.ds : Int) < 0)) = false, (decide ((r.ds : Int) < 0)) = false, (decide ((r.ds : Int) < 0)) = false, (decide ((r.ds : Int) < 0)) = false, (decide ((r.ds : Int) > 16777215)) = false], dupR [(w.heap.size, 3, 1), (w.heap.size, 3, 1)], [], ⟨[(2, .pointer (some ⟨w.heap.size + 1, 0, none⟩))], [⟨w.heap.size, 25, true, (sr_v1 r)⟩, ⟨w.heap.size + 1, 4, true, [.bool false]⟩, ⟨w.heap.size + 2, 60, false, [.pointer (some ⟨w.heap.size, 0, none⟩)]⟩], [], Z⟩⟩ := by kernel_rfl
theorem sr_s14 (r : RecM) (w : World) (Z : Nat) : Res.prune [2] [] (exec Try.prog (bodyOf Try.f14) 67 22 [⟨false, 0, []⟩, ⟨false, 0, []⟩, ⟨false, 0, [⟨false, 0, 6, 1⟩]⟩, ⟨false, 0, []⟩, ⟨false, 0, []⟩, ⟨true, 0, []⟩, ⟨true, 0, []⟩, ⟨true, 0, []⟩, ⟨true, 0, []⟩, ⟨false, 2, []⟩, ⟨true, 0, []⟩, ⟨false, 0, [⟨false, 1, 0, 1⟩]⟩] [.code [1, 0, 1, 0, 1]] ⟨[(3, .pointer (some ⟨w.heap.size, 6, none⟩)), (6, .pointer (some ⟨w.heap.size, 6, none⟩)), (1, .pointer (some ⟨w.heap.size, 0, none⟩)), (2, .pointer (some ⟨w.heap.size + 1, 0, none⟩)), (5, .func (.func 39) #[] #[.pointer (some ⟨w.heap.size + 2, 0, none⟩)])], [⟨w.heap.size, 25, true, (sr_v1 r)⟩, ⟨w.heap.size + 1, 4, true, [.bool false]⟩, ⟨w.heap.size + 2, 60, false, [.pointer (some ⟨w.heap.size, 0, none⟩)]⟩], [], Z⟩) = some ⟨[(decide ((r.ie : Int) < 0)) = true, (decide ((r.ie : Int) < 0)) = true, (decide ((r.ie : Int) < 0)) = true, (decide ((r.ie : Int) < 0)) = true, (decide ((r.ie : Int) < 0)) = true, true = true], dupR [(w.heap.size, 6, 1), (w.heap.size + 1, 0, 1)], [.code [1, 0, 1, 0, 1, 0, 1, 0, 1], .blk 1], ⟨[(2, .pointer (some ⟨w.heap.size + 1, 0, none⟩))], [⟨w.heap.size, 25, true, (sr_v1 r)⟩, ⟨w.heap.size + 1, 4, true, [.bool false]⟩, ⟨w.heap.size + 2, 60, false, [.pointer (some ⟨w.heap.size, 0, none⟩)]⟩], [], Z⟩⟩ := by kernel_rfl
theorem sr_s15 (r : RecM) (w : World) (Z : Nat) : Res.prune [2] [] (exec Try.prog (bodyOf Try.f14) 67 22 [⟨false, 0, []⟩, ⟨false, 0, []⟩, ⟨false, 0, [⟨false, 0, 6, 1⟩]⟩, ⟨false, 0, []⟩, ⟨false, 0, []⟩, ⟨false, 0, []⟩, ⟨false, 0, []⟩, ⟨false, 0, [⟨false, 0, 6, 1⟩]⟩, ⟨false, 0, []⟩, ⟨false, 3, []⟩, ⟨true, 0, []⟩, ⟨false, 0, [⟨false, 1, 0, 1⟩]⟩] [.code [1, 0, 1, 0, 1]] ⟨[(3, .pointer (some ⟨w.heap.size, 6, none⟩)), (6, .pointer (some ⟨w.heap.size, 6, none⟩)), (1, .pointer (some ⟨w.heap.size, 0, none⟩)), (2, .pointer (some ⟨w.heap.size + 1, 0, none⟩)), (5, .func (.func 39) #[] #[.pointer (some ⟨w.heap.size + 2, 0, none⟩)])], [⟨w.heap.size, 25, true, (sr_v1 r)⟩, ⟨w.heap.size + 1, 4, true, [.bool false]⟩, ⟨w.heap.size + 2, 60, false, [.pointer (some ⟨w.heap.size, 0, none⟩)]⟩], [], Z⟩) = some ⟨[(decide ((r.ie : Int) < 0)) = false, (decide ((r.ie : Int) < 0)) = false, (decide ((r.ie : Int) < 0)) = false, (decide ((r.ie : Int) < 0)) = false, (decide ((r.ie : Int) < 0)) = false, (decide ((r.ie : Int) > 16777215)) = true], dupR [(w.heap.size, 6, 1), (w.heap.size, 6, 1), (w.heap.size + 1, 0, 1)], [.code [1, 0, 1, 0, 1, 0, 1, 0, 1], .blk 1], ⟨[(2, .pointer (some ⟨w.heap.size + 1, 0, none⟩))], [⟨w.heap.size, 25, true, (sr_v1 r)⟩, ⟨w.heap.size + 1, 4, true, [.bool false]⟩, ⟨w.heap.size + 2, 60, false, [.pointer (some ⟨w.heap.size, 0, none⟩)]⟩], [], Z⟩⟩ := by kernel_rfl
theorem sr_s16 (r : RecM) (w : World) (Z : Nat) : Res.prune [2] [] (exec Try.prog (bodyOf Try.f14) 67 20 [⟨false, 0, []⟩, ⟨false, 0, []⟩, ⟨false, 0, [⟨false, 0, 6, 1⟩]⟩, ⟨false, 0, []⟩, ⟨false, 0, []⟩, ⟨false, 0, []⟩, ⟨false, 0, []⟩, ⟨false, 0, [⟨false, 0, 6, 1⟩]⟩, ⟨false, 0, []⟩, ⟨false, 3, []⟩, ⟨false, 0, []⟩] [.code [1, 0, 1, 0, 1]] ⟨[(3, .pointer (some ⟨w.heap.size, 6, none⟩)), (6, .pointer (some ⟨w.heap.size, 6, none⟩)), (1, .pointer (some ⟨w.heap.size, 0, none⟩)), (2, .pointer (some ⟨w.heap.size + 1, 0, none⟩)), (5, .func (.func 39) #[] #[.pointer (some ⟨w.heap.size + 2, 0, none⟩)])], [⟨w.heap.size, 25, true, (sr_v1 r)⟩, ⟨w.heap.size + 1, 4, true, [.bool false]⟩, ⟨w.heap.size + 2, 60, false, [.pointer (some ⟨w.heap.size, 0, none⟩)]⟩], [], Z⟩) = some ⟨[(decide ((r.ie : Int) < 0)) = false, (decide ((r.ie : Int) < 0)) = false, (decide ((r.ie : Int) < 0)) = false, (decide ((r.ie : Int) < 0)) = false, (decide ((r.ie : Int) < 0)) = false, (decide ((r.ie : Int) > 16777215)) = false], dupR [(w.heap.size, 6, 1), (w.heap.size, 6, 1)], [], ⟨[(2, .pointer (some ⟨w.heap.size + 1, 0, none⟩))], [⟨w.heap.size, 25, true, (sr_v1 r)⟩, ⟨w.heap.size + 1, 4, true, [.bool false]⟩, ⟨w.heap.size + 2, 60, false, [.pointer (some ⟨w.heap.size, 0, none⟩)]⟩], [], Z⟩⟩ := by kernel_rfl
theorem sr_s17 (r : RecM) (w : World) (Z : Nat) : Res.prune [2] [] (exec Try.prog (bodyOf Try.f14) 67 22 [⟨false, 0, []⟩, ⟨false, 0, []⟩, ⟨false, 0, [⟨false, 0, 7, 1⟩]⟩, ⟨false, 0, []⟩, ⟨false, 0, []⟩, ⟨true, 0, []⟩, ⟨true, 0, []⟩, ⟨true, 0, []⟩, ⟨true, 0, []⟩, ⟨false, 2, []⟩, ⟨true, 0, []⟩, ⟨false, 0, [⟨false, 1, 0, 1⟩]⟩] [.code [1, 0, 1, 0, 1]] ⟨[(3, .pointer (some ⟨w.heap.size, 7, none⟩)), (6, .pointer (some ⟨w.heap.size, 7, none⟩)), (1, .pointer (some ⟨w.heap.size, 0, none⟩)), (2, .pointer (some ⟨w.heap.size + 1, 0, none⟩)), (5, .func (.func 39) #[] #[.pointer (some ⟨w.heap.size + 2, 0, none⟩)])], [⟨w.heap.size, 25, true, (sr_v1 r)⟩, ⟨w.heap.size + 1, 4, true, [.bool false]⟩, ⟨w.heap.size + 2, 60, false, [.pointer (some ⟨w.heap.size, 0, none⟩)]⟩], [], Z⟩) = some ⟨[(decide ((r.is : Int) < 0)) = true, (decide ((r.is : Int) < 0)) = true, (decide ((r.is : Int) < 0)) = true, (decide ((r.is : Int) < 0)) = true, (decide ((r.is : Int) < 0)) = true, true = true], dupR [(w.heap.size, 7, 1), (w.heap.size + 1, 0, 1)], [.code [1, 0, 1, 0, 1, 0, 1, 0, 1], .blk 1], ⟨[(2, .pointer (some ⟨w.heap.size + 1, 0, none⟩))], [⟨w.heap.size, 25, true, (sr_v1 r)⟩, ⟨w.heap.size + 1, 4, true, [.bool false]⟩, ⟨w.heap.size + 2, 60, false, [.pointer (some ⟨w.heap.size, 0, none⟩)]⟩], [], Z⟩⟩ := by kernel_rfl
theorem sr_s18 (r : RecM) (w : World) (Z : Nat) : Res.prune [2] [] (exec Try.prog (bodyOf Try.f14) 67 22 [⟨false, 0, []⟩, ⟨false, 0, []⟩, ⟨false, 0, [⟨false, 0, 7, 1⟩]⟩, ⟨false, 0, []⟩, ⟨false, 0, []⟩, ⟨false, 0, []⟩, ⟨false, 0, []⟩, ⟨false, 0, [⟨false, 0, 7, 1⟩]⟩, ⟨false, 0, []⟩, ⟨false, 3, []⟩, ⟨true, 0, []⟩, ⟨false, 0, [⟨false, 1, 0, 1⟩]⟩] [.code [1, 0, 1, 0, 1]] ⟨[(3, .pointer (some ⟨w.heap.size, 7, none⟩)), (6, .pointer (some ⟨w.heap.size, 7, none⟩)), (1, .pointer (some ⟨w.heap.size, 0, none⟩)), (2, .pointer (some ⟨w.heap.size + 1, 0, none⟩)), (5, .func (.func 39) #[] #[.pointer (some ⟨w.heap.size + 2, 0, none⟩)])], [⟨w.heap.size, 25, true, (sr_v1 r)⟩, ⟨w.heap.size + 1, 4, true, [.bool false]⟩, ⟨w.heap.size + 2, 60, false, [.pointer (some ⟨w.heap.size, 0, none⟩)]⟩], [], Z⟩) = some ⟨[(decide ((r.is : Int) < 0)) = false, (decide ((r.is : Int) < 0)) = false, (decide ((r.is : Int) < 0)) = false, (decide ((r.is : Int) < 0)) = false, (decide ((r.is : Int) < 0)) = false, (decide ((r.is : Int) > 16777215)) = true], dupR [(w.heap.size, 7, 1), (w.heap.size, 7, 1), (w.heap.size + 1, 0, 1)], [.code [1, 0, 1, 0, 1, 0, 1, 0, 1], .blk 1], ⟨[(2, .pointer (some ⟨w.heap.size + 1, 0, none⟩))], [⟨w.heap.size, 25, true, (sr_v1 r)⟩, ⟨w.heap.size + 1, 4, true, [.bool false]⟩, ⟨w.heap.size + 2, 60, false, [.pointer (some ⟨w.heap.size, 0, none⟩)]⟩], [], Z⟩⟩ := by kernel_rfl
theorem sr_s19 (r : RecM) (w : World) (Z : Nat) : Res.prune [2] [] (exec Try.prog (bodyOf Try.f14) 67 20 [⟨false, 0, []⟩, ⟨false, 0, []⟩, ⟨false, 0, [⟨false, 0, 7, 1⟩]⟩, ⟨false, 0, []⟩, ⟨false, 0, []⟩, ⟨false, 0, []⟩, ⟨false, 0, []⟩, ⟨false, 0, [⟨false, 0, 7, 1⟩]⟩, ⟨false, 0, []⟩, ⟨false, 3, []⟩, ⟨false, 0, []⟩] [.code [1, 0, 1, 0, 1]] ⟨[(3, .pointer (some ⟨w.heap.size, 7, none⟩)), (6, .pointer (some ⟨w.heap.size, 7, none⟩)), (1, .pointer (some ⟨w.heap.size, 0, none⟩)), (2, .pointer (some ⟨w.heap.size + 1, 0, none⟩)), (5, .func (.func 39) #[] #[.pointer (some ⟨w.heap.size + 2, 0, none⟩)])], [⟨w.heap.size, 25, true, (sr_v1 r)⟩, ⟨w.heap.size + 1, 4, true, [.bool false]⟩, ⟨w.heap.size + 2, 60, false, [.pointer (some ⟨w.heap.size, 0, none⟩)]⟩], [], Z⟩) = some ⟨[(decide ((r.is : Int) < 0)) = false, (decide ((r.is : Int) < 0)) = false, (decide ((r.is : Int) < 0)) = false, (decide ((r.is : Int) < 0)) = false, (decide ((r.is : Int) < 0)) = false, (decide ((r.is : Int) > 16777215)) = false], dupR [(w.heap.size, 7, 1), (w.heap.size, 7, 1)], [], ⟨[(2, .pointer (some ⟨w.heap.size + 1, 0, none⟩))], [⟨w.heap.size, 25, true, (sr_v1 r)⟩, ⟨w.heap.size + 1, 4, true, [.bool false]⟩, ⟨w.heap.size + 2, 60, false, [.pointer (some ⟨w.heap.size, 0, none⟩)]⟩], [], Z⟩⟩ := by kernel_rfl
theorem sr_s20 (r : RecM) (w : World) (W : World) : Res.prune [1, 2, 20] [] (exec Try.prog (bodyOf Try.f14) 67 11 [⟨false, 0, []⟩, ⟨false, 0, [⟨false, 0, 8, 1⟩]⟩, ⟨false, 0, []⟩, ⟨false, 0, []⟩] [.blk 0, .code [1, 1]] ⟨[(1, .pointer (some ⟨w.heap.size, 0, none⟩)), (2, .pointer (some ⟨w.heap.size + 1, 0, none⟩)), (5, .func (.func 39) #[] #[.pointer (some ⟨w.heap.size + 2, 0, none⟩)])], [⟨w.heap.size, 25, true, (sr_v1 r)⟩, ⟨w.heap.size + 1, 4, true, [.bool false]⟩, ⟨w.heap.size + 2, 60, false, [.pointer (some ⟨w.heap.size, 0, none⟩)]⟩], [], W.heap.size⟩) = some ⟨[], dupR [(w.heap.size, 8, 1)], [.ops [1, 1, 0, 0] [4, 5, 6, 7], .code [1, 1, 0, 1], .code [1, 1, 1]], ⟨[(1, .pointer (some ⟨w.heap.size, 0, none⟩)), (2, .pointer (some ⟨w.heap.size + 1, 0, none⟩)), (20, .bool (decide ((r.mask : Int) < 0)))], [⟨w.heap.size, 25, true, (sr_v1 r)⟩, ⟨w.heap.size + 1, 4, true, [.bool false]⟩, ⟨w.heap.size + 2, 60, false, [.pointer (some ⟨w.heap.size, 0, none⟩)]⟩], [], W.heap.size⟩⟩ := by kernel_rfl
theorem sr_s21 (r : RecM) (w : World) (W : World) : Res.prune [1, 2] [] (exec Try.prog (bodyOf Try.f14) 67 13 [⟨true, 0, []⟩, ⟨true, 0, []⟩, ⟨true, 0, []⟩, ⟨false, 2, []⟩, ⟨true, 0, []⟩, ⟨false, 0, [⟨false, 1, 0, 1⟩]⟩] [.ops [1, 1, 0, 0] [4, 5, 6, 7], .code [1, 1, 0, 1], .code [1, 1, 1]] ⟨[(1, .pointer (some ⟨w.heap.size, 0, none⟩)), (2, .pointer (some ⟨w.heap.size + 1, 0, none⟩)), (20, .bool (decide ((r.mask : Int) < 0)))], [⟨w.heap.size, 25, true, (sr_v1 r)⟩, ⟨w.heap.size + 1, 4, true, [.bool false]⟩, ⟨w.heap.size + 2, 60, false, [.pointer (some ⟨w.heap.size, 0, none⟩)]⟩], [], W.heap.size⟩) = some ⟨[(decide ((r.mask : Int) < 0)) = true, (decide ((r.mask : Int) < 0)) = true, (decide ((r.mask : Int) < 0)) = true, (decide ((r.mask : Int) < 0)) = true, true = true], dupR [(w.heap.size + 1, 0, 1)], [.code [1, 1, 0, 1, 0, 1], .code [1, 1, 1]], ⟨[(1, .pointer (some ⟨w.heap.size, 0, none⟩)), (2, .pointer (some ⟨w.heap.size + 1, 0, none⟩))], [⟨w.heap.size, 25, true, (sr_v1 r)⟩, ⟨w.heap.size + 1, 4, true, [.bool false]⟩, ⟨w.heap.size + 2, 60, false, [.pointer (some ⟨w.heap.size, 0, none⟩)]⟩], [], W.heap.size⟩⟩ := by kernel_rfl
theorem sr_r22 (r : RecM) (w : World) : resL Try.prog [] [⟨w.heap.size, 25, true, (sr_v1 r)⟩, ⟨w.heap.size + 1, 4, true, [.bool false]⟩, ⟨w.heap.size + 2, 60, false, [.pointer (some ⟨w.heap.size, 0, none⟩)]⟩] [(1, .pointer (some ⟨w.heap.size, 0, none⟩)), (2, .pointer (some ⟨w.heap.size + 1, 0, none⟩))] Try.f14.results.toList [[⟨false, 1, 0, 1⟩]] = some ([.bool false], dupR [(w.heap.size + 1, 0, 1)]) := by kernel_rfl
theorem sr_s23 (r : RecM) (w : World) (W : World) : Res.prune [1, 2, 24] [] (exec Try.prog (bodyOf Try.f14) 67 8 [⟨false, 0, []⟩, ⟨false, 0, [⟨false, 0, 8, 1⟩]⟩, ⟨false, 0, []⟩, ⟨false, 3, []⟩] [.ops [1, 1, 0, 0] [4, 5, 6, 7], .code [1, 1, 0, 1], .code [1, 1, 1]] ⟨[(1, .pointer (some ⟨w.heap.size, 0, none⟩)), (2, .pointer (some ⟨w.heap.size + 1, 0, none⟩)), (20, .bool (decide ((r.mask : Int) < 0)))], [⟨w.heap.size, 25, true, (sr_v1 r)⟩, ⟨w.heap.size + 1, 4, true, [.bool false]⟩, ⟨w.heap.size + 2, 60, false, [.pointer (some ⟨w.heap.size, 0, none⟩)]⟩], [], W.heap.size⟩) = some ⟨[(decide ((r.mask : Int) < 0)) = false, (decide ((r.mask : Int) < 0)) = false, (decide ((r.mask : Int) < 0)) = false, (decide ((r.mask : Int) < 0)) = false], dupR [(w.heap.size, 8, 1)], [.code [1, 1, 0, 1], .code [1, 1, 1]], ⟨[(1, .pointer (some ⟨w.heap.size, 0, none⟩)), (2, .pointer (some ⟨w.heap.size + 1, 0, none⟩)), (24, .bool (decide ((r.mask : Int) > 63)))], [⟨w.heap.size, 25, true, (sr_v1 r)⟩, ⟨w.heap.size + 1, 4, true, [.bool false]⟩, ⟨w.heap.size + 2, 60, false, [.pointer (some ⟨w.heap.size, 0, none⟩)]⟩], [], W.heap.size⟩⟩ := by kernel_rfl
theorem sr_s24 (r : RecM) (w : World) (W : World) : Res.prune [1, 2] [] (exec Try.prog (bodyOf Try.f14) 67 8 [⟨true, 0, []⟩, ⟨false, 0, [⟨false, 1, 0, 1⟩]⟩] [.code [1, 1, 0, 1], .code [1, 1, 1]] ⟨[(1, .pointer (some ⟨w.heap.size, 0, none⟩)), (2, .pointer (some ⟨w.heap.size + 1, 0, none⟩)), (24, .bool (decide ((r.mask : Int) > 63)))], [⟨w.heap.size, 25, true, (sr_v1 r)⟩, ⟨w.heap.size + 1, 4, true, [.bool false]⟩, ⟨w.heap.size + 2, 60, false, [.pointer (some ⟨w.heap.size, 0, none⟩)]⟩], [], W.heap.size⟩) = some ⟨[(decide ((r.mask : Int) > 63)) = true], dupR [(w.heap.size + 1, 0, 1)], [.code [1, 1, 0, 1, 0, 1], .code [1, 1, 1]], ⟨[(1, .pointer (some ⟨w.heap.size, 0, none⟩)), (2, .pointer (some ⟨w.heap.size + 1, 0, none⟩))], [⟨w.heap.size, 25, true, (sr_v1 r)⟩, ⟨w.heap.size + 1, 4, true, [.bool false]⟩, ⟨w.heap.size + 2, 60, false, [.pointer (some ⟨w.heap.size, 0, none⟩)]⟩], [], W.heap.size⟩⟩ := by kernel_rfl
theorem sr_r25 (r : RecM) (w : World) : resL Try.prog [] [⟨w.heap.size, 25, true, (sr_v1 r)⟩, ⟨w.heap.size + 1, 4, true, [.bool false]⟩, ⟨w.heap.size + 2, 60, false, [.pointer (some ⟨w.heap.size, 0, none⟩)]⟩] [(1, .pointer (some ⟨w.heap.size, 0, none⟩)), (2, .pointer (some ⟨w.heap.size + 1, 0, none⟩))] Try.f14.results.toList [[⟨false, 1, 0, 1⟩]] = some ([.bool false], dupR [(w.heap.size + 1, 0, 1)]) := by kernel_rfl
theorem sr_s26 (r : RecM) (w : World) (W : World) : Res.prune [1, 2, 26, 28] [] (exec Try.prog (bodyOf Try.f14) 67 12 [⟨false, 0, []⟩, ⟨false, 0, []⟩, ⟨false, 0, [⟨false, 0, 4, 1⟩]⟩, ⟨false, 0, []⟩, ⟨false, 0, [⟨false, 0, 0, 1⟩]⟩] [.code [1, 1, 0, 1], .code [1, 1, 1]] ⟨[(1, .pointer (some ⟨w.heap.size, 0, none⟩)), (2, .pointer (some ⟨w.heap.size + 1, 0, none⟩)), (24, .bool (decide ((r.mask : Int) > 63)))], [⟨w.heap.size, 25, true, (sr_v1 r)⟩, ⟨w.heap.size + 1, 4, true, [.bool false]⟩, ⟨w.heap.size + 2, 60, false, [.pointer (some ⟨w.heap.size, 0, none⟩)]⟩], [], W.heap.size⟩) = some ⟨[(decide ((r.mask : Int) > 63)) = false], dupR [(w.heap.size, 4, 1), (w.heap.size, 0, 1)], [.ops [1, 1, 1, 0, 0] [4, 5, 6, 7, 8, 9, 10, 11, 12, 13], .code [1, 1, 1, 0, 1], .code [1, 1, 1, 1]], ⟨[(1, .pointer (some ⟨w.heap.size, 0, none⟩)), (2, .pointer (some ⟨w.heap.size + 1, 0, none⟩)), (26, .string r.block), (28, .bool r.used)], [⟨w.heap.size, 25, true, (sr_v1 r)⟩, ⟨w.heap.size + 1, 4, true, [.bool false]⟩, ⟨w.heap.size + 2, 60, false, [.pointer (some ⟨w.heap.size, 0, none⟩)]⟩], [], W.heap.size⟩⟩ := by kernel_rfl
theorem sr_c27 (r : RecM) (w : World) : callAt Try.prog (opsOf (getCode (bodyOf Try.f14) [1, 1, 1, 0, 0])) [(1, .pointer (some ⟨w.heap.size, 0, none⟩)), (2, .pointer (some ⟨w.heap.size + 1, 0, none⟩)), (26, .string r.block), (28, .bool r.used)] 4 = some (30, [.string r.block, .bool r.used], some 29, []) := by kernel_rfl
theorem sr_s28 (r : RecM) (w : World) (z27 : Nat) : Res.prune [1, 2, 31] [] (exec Try.prog (bodyOf Try.f14) 67 5 [⟨false, 0, []⟩, ⟨false, 0, []⟩] [.ops [1, 1, 1, 0, 0] [5, 6, 7, 8, 9, 10, 11, 12, 13], .code [1, 1, 1, 0, 1], .code [1, 1, 1, 1]] ⟨[(29, .bool (fitB r.block r.used)), (1, .pointer (some ⟨w.heap.size, 0, none⟩)), (2, .pointer (some ⟨w.heap.size + 1, 0, none⟩)), (26, .string r.block), (28, .bool r.used)], [⟨w.heap.size, 25, true, (sr_v1 r)⟩, ⟨w.heap.size + 1, 4, true, [.bool false]⟩, ⟨w.heap.size + 2, 60, false, [.pointer (some ⟨w.heap.size, 0, none⟩)]⟩], [], z27⟩) = some ⟨[], dupR [], [.ops [1, 1, 1, 0, 0] [7, 8, 9, 10, 11, 12, 13], .code [1, 1, 1, 0, 1], .code [1, 1, 1, 1]], ⟨[(1, .pointer (some ⟨w.heap.size, 0, none⟩)), (2, .pointer (some ⟨w.heap.size + 1, 0, none⟩)), (31, .bool (!(fitB r.block r.used)))], [⟨w.heap.size, 25, true, (sr_v1 r)⟩, ⟨w.heap.size + 1, 4, true, [.bool false]⟩, ⟨w.heap.size + 2, 60, false, [.pointer (some ⟨w.heap.size, 0, none⟩)]⟩], [], z27⟩⟩ := by kernel_rfl
theorem sr_s29 (r : RecM) (w : World) (z27 : Nat) : Res.prune [1, 2, 31, 33, 35] [] (exec Try.prog (bodyOf Try.f14) 67 7 [⟨false, 0, []⟩, ⟨false, 0, [⟨false, 0, 9, 1⟩]⟩, ⟨false, 0, []⟩, ⟨false, 0, [⟨false, 0, 5, 1⟩]⟩] [.ops [1, 1, 1, 0, 0] [7, 8, 9, 10, 11, 12, 13], .code [1, 1, 1, 0, 1], .code [1, 1, 1, 1]] ⟨[(1, .pointer (some ⟨w.heap.size, 0, none⟩)), (2, .pointer (some ⟨w.heap.size + 1, 0, none⟩)), (31, .bool (!(fitB r.block r.used)))], [⟨w.heap.size, 25, true, (sr_v1 r)⟩, ⟨w.heap.size + 1, 4, true, [.bool false]⟩, ⟨w.heap.size + 2, 60, false, [.pointer (some ⟨w.heap.size, 0, none⟩)]⟩], [], z27⟩) = some ⟨[(!(fitB r.block r.used)) = false, (!(fitB r.block r.used)) = false, (!(fitB r.block r.used)) = false, (!(fitB r.block r.used)) = false], dupR [(w.heap.size, 9, 1), (w.heap.size, 5, 1)], [.ops [1, 1, 1, 0, 0] [11, 12, 13], .code [1, 1, 1, 0, 1], .code [1, 1, 1, 1]], ⟨[(1, .pointer (some ⟨w.heap.size, 0, none⟩)), (2, .pointer (some ⟨w.heap.size + 1, 0, none⟩)), (31, .bool (!(fitB r.block r.used))), (33, .string r.staged), (35, .bool r.op)], [⟨w.heap.size, 25, true, (sr_v1 r)⟩, ⟨w.heap.size + 1, 4, true, [.bool false]⟩, ⟨w.heap.size + 2, 60, false, [.pointer (some ⟨w.heap.size, 0, none⟩)]⟩], [], z27⟩⟩ := by kernel_rfl
theorem sr_c30 (r : RecM) (w : World) : callAt Try.prog (opsOf (getCode (bodyOf Try.f14) [1, 1, 1, 0, 0])) [(1, .pointer (some ⟨w.heap.size, 0, none⟩)), (2, .pointer (some ⟨w.heap.size + 1, 0, none⟩)), (31, .bool (!(fitB r.block r.used))), (33, .string r.staged), (35, .bool r.op)] 11 = some (30, [.string r.staged, .bool r.op], some 36, [(!(fitB r.block r.used)) = false]) := by kernel_rfl
theorem sr_s31 (r : RecM) (w : World) (z30 : Nat) : Res.prune [1, 2, 38] [] (exec Try.prog (bodyOf Try.f14) 67 6 [⟨false, 0, []⟩, ⟨false, 3, []⟩] [.ops [1, 1, 1, 0, 0] [12, 13], .code [1, 1, 1, 0, 1], .code [1, 1, 1, 1]] ⟨[(36, .bool (fitB r.staged r.op)), (1, .pointer (some ⟨w.heap.size, 0, none⟩)), (2, .pointer (some ⟨w.heap.size + 1, 0, none⟩)), (31, .bool (!(fitB r.block r.used))), (33, .string r.staged), (35, .bool r.op)], [⟨w.heap.size, 25, true, (sr_v1 r)⟩, ⟨w.heap.size + 1, 4, true, [.bool false]⟩, ⟨w.heap.size + 2, 60, false, [.pointer (some ⟨w.heap.size, 0, none⟩)]⟩], [], z30⟩) = some ⟨[(!(fitB r.block r.used)) = false, (!(fitB r.block r.used)) = false], dupR [], [.code [1, 1, 1, 0, 1], .code [1, 1, 1, 1]], ⟨[(1, .pointer (some ⟨w.heap.size, 0, none⟩)), (2, .pointer (some ⟨w.heap.size + 1, 0, none⟩)), (38, .bool (!(fitB r.staged r.op)))], [⟨w.heap.size, 25, true, (sr_v1 r)⟩, ⟨w.heap.size + 1, 4, true, [.bool false]⟩, ⟨w.heap.size + 2, 60, false, [.pointer (some ⟨w.heap.size, 0, none⟩)]⟩], [], z30⟩⟩ := by kernel_rfl
theorem sr_s32 (r : RecM) (w : World) (z30 : Nat) : Res.prune [1, 2, 4, 43] [] (exec Try.prog (bodyOf Try.f14) 67 18 [⟨false, 0, []⟩, ⟨false, 0, []⟩, ⟨false, 0, []⟩, ⟨false, 0, [⟨false, 3, 0, 2⟩]⟩, ⟨false, 0, []⟩, ⟨false, 0, [⟨false, 0, 5, 1⟩]⟩, ⟨false, 0, []⟩, ⟨false, 0, []⟩] [.code [1, 1, 1, 0, 1], .code [1, 1, 1, 1]] ⟨[(1, .pointer (some ⟨w.heap.size, 0, none⟩)), (2, .pointer (some ⟨w.heap.size + 1, 0, none⟩)), (38, .bool (!(fitB r.staged r.op)))], [⟨w.heap.size, 25, true, (sr_v1 r)⟩, ⟨w.heap.size + 1, 4, true, [.bool false]⟩, ⟨w.heap.size + 2, 60, false, [.pointer (some ⟨w.heap.size, 0, none⟩)]⟩], [], z30⟩) = some ⟨[(!(fitB r.staged r.op)) = false], dupR [(z30, 0, 2), (w.heap.size, 5, 1)], [.ops [1, 1, 1, 1, 1, 0, 0] [4, 5, 6, 7, 8, 9, 10, 11, 12, 13], .code [1, 1, 1, 1, 1, 0, 1], .code [1, 1, 1, 1, 1, 1]], ⟨[(1, .pointer (some ⟨w.heap.size, 0, none⟩)), (2, .pointer (some ⟨w.heap.size + 1, 0, none⟩)), (4, .pointer (some ⟨z30, 0, none⟩)), (43, .bool (!r.op))], [⟨w.heap.size, 25, true, (sr_v1 r)⟩, ⟨w.heap.size + 1, 4, true, [.bool false]⟩, ⟨w.heap.size + 2, 60, false, [.pointer (some ⟨w.heap.size, 0, none⟩)]⟩, ⟨z30, 23, true, [.int .i64 0, .int .i64 0]⟩], [], z30 + 1⟩⟩ := by kernel_rfl
theorem sr_s33 (r : RecM) (w : World) (z30 : Nat) : Res.prune [1, 2, 4, 56] [] (exec Try.prog (bodyOf Try.f14) 67 21 [⟨false, 0, []⟩, ⟨false, 0, []⟩, ⟨false, 0, []⟩, ⟨false, 0, []⟩, ⟨false, 0, []⟩, ⟨false, 0, []⟩, ⟨false, 0, []⟩, ⟨false, 0, []⟩, ⟨false, 0, []⟩, ⟨false, 3, []⟩, ⟨false, 0, []⟩, ⟨false, 0, []⟩, ⟨false, 0, [⟨false, 0, 0, 1⟩]⟩, ⟨false, 0, []⟩] [.ops [1, 1, 1, 1, 1, 0, 0] [4, 5, 6, 7, 8, 9, 10, 11, 12, 13], .code [1, 1, 1, 1, 1, 0, 1], .code [1, 1, 1, 1, 1, 1]] ⟨[(1, .pointer (some ⟨w.heap.size, 0, none⟩)), (2, .pointer (some ⟨w.heap.size + 1, 0, none⟩)), (4, .pointer (some ⟨z30, 0, none⟩)), (43, .bool (!r.op))], [⟨w.heap.size, 25, true, (sr_v1 r)⟩, ⟨w.heap.size + 1, 4, true, [.bool false]⟩, ⟨w.heap.size + 2, 60, false, [.pointer (some ⟨w.heap.size, 0, none⟩)]⟩, ⟨z30, 23, true, [.int .i64 0, .int .i64 0]⟩], [], z30 + 1⟩) = some ⟨[(!r.op) = false, (!r.op) = false, (!r.op) = false, (!r.op) = false, (!r.op) = false, (!r.op) = false, (!r.op) = false, false = false], dupR [(w.heap.size, 0, 1)], [.ops [1, 1, 1, 1, 1, 1, 0] [3, 4, 5, 6, 7, 8, 9, 10, 11, 12, 13], .code [1, 1, 1, 1, 1, 1, 1]], ⟨[(1, .pointer (some ⟨w.heap.size, 0, none⟩)), (2, .pointer (some ⟨w.heap.size + 1, 0, none⟩)), (4, .pointer (some ⟨z30, 0, none⟩)), (56, .bool r.used)], [⟨w.heap.size, 25, true, (sr_v1 r)⟩, ⟨w.heap.size + 1, 4, true, [.bool false]⟩, ⟨w.heap.size + 2, 60, false, [.pointer (some ⟨w.heap.size, 0, none⟩)]⟩, ⟨z30, 23, true, [.int .i64 0, .int .i64 0]⟩], [], z30 + 1⟩⟩ := by kernel_rfl
theorem sr_s34 (r : RecM) (w : World) (z30 : Nat) : Res.prune [2] [] (exec Try.prog (bodyOf Try.f14) 67 15 [⟨true, 0, []⟩, ⟨true, 0, []⟩, ⟨true, 0, []⟩, ⟨true, 0, []⟩, ⟨false, 0, []⟩, ⟨false, 0, []⟩, ⟨false, 0, []⟩, ⟨false, 0, []⟩, ⟨true, 0, []⟩, ⟨false, 2, []⟩, ⟨false, 0, [⟨false, 1, 0, 1⟩]⟩] [.ops [1, 1, 1, 1, 1, 1, 0] [3, 4, 5, 6, 7, 8, 9, 10, 11, 12, 13], .code [1, 1, 1, 1, 1, 1, 1]] ⟨[(1, .pointer (some ⟨w.heap.size, 0, none⟩)), (2, .pointer (some ⟨w.heap.size + 1, 0, none⟩)), (4, .pointer (some ⟨z30, 0, none⟩)), (56, .bool r.used)], [⟨w.heap.size, 25, true, (sr_v1 r)⟩, ⟨w.heap.size + 1, 4, true, [.bool false]⟩, ⟨w.heap.size + 2, 60, false, [.pointer (some ⟨w.heap.size, 0, none⟩)]⟩, ⟨z30, 23, true, [.int .i64 0, .int .i64 0]⟩], [], z30 + 1⟩) = some ⟨[r.used = true, r.used = true, r.used = true, r.used = true, r.used = true, r.used = true], dupR [(w.heap.size + 1, 0, 1)], [.code [1, 1, 1, 1, 1, 1, 1]], ⟨[(2, .pointer (some ⟨w.heap.size + 1, 0, none⟩))], [⟨w.heap.size, 25, true, (sr_v1 r)⟩, ⟨w.heap.size + 1, 4, true, [.bool true]⟩, ⟨w.heap.size + 2, 60, false, [.pointer (some ⟨w.heap.size, 0, none⟩)]⟩, ⟨z30, 23, true, [.int .i64 0, .int .i64 0]⟩], [], z30 + 1⟩⟩ := by kernel_rfl
theorem sr_r35 (r : RecM) (w : World) (z30 : Nat) : resL Try.prog [] [⟨w.heap.size, 25, true, (sr_v1 r)⟩, ⟨w.heap.size + 1, 4, true, [.bool true]⟩, ⟨w.heap.size + 2, 60, false, [.pointer (some ⟨w.heap.size, 0, none⟩)]⟩, ⟨z30, 23, true, [.int .i64 0, .int .i64 0]⟩] [(2, .pointer (some ⟨w.heap.size + 1, 0, none⟩))] Try.f14.results.toList [[⟨false, 1, 0, 1⟩]] = some ([.bool true], dupR [(w.heap.size + 1, 0, 1)]) := by kernel_rfl
theorem sr_s36 (r : RecM) (w : World) (z30 : Nat) : Res.prune [2] [] (exec Try.prog (bodyOf Try.f14) 67 15 [⟨false, 0, []⟩, ⟨false, 0, [⟨false, 0, 5, 1⟩]⟩, ⟨false, 0, []⟩, ⟨false, 0, []⟩, ⟨false, 0, []⟩, ⟨false, 0, []⟩, ⟨false, 0, []⟩, ⟨false, 0, []⟩, ⟨false, 3, []⟩, ⟨false, 3, []⟩, ⟨false, 0, [⟨false, 1, 0, 1⟩]⟩] [.ops [1, 1, 1, 1, 1, 1, 0] [3, 4, 5, 6, 7, 8, 9, 10, 11, 12, 13], .code [1, 1, 1, 1, 1, 1, 1]] ⟨[(1, .pointer (some ⟨w.heap.size, 0, none⟩)), (2, .pointer (some ⟨w.heap.size + 1, 0, none⟩)), (4, .pointer (some ⟨z30, 0, none⟩)), (56, .bool r.used)], [⟨w.heap.size, 25, true, (sr_v1 r)⟩, ⟨w.heap.size + 1, 4, true, [.bool false]⟩, ⟨w.heap.size + 2, 60, false, [.pointer (some ⟨w.heap.size, 0, none⟩)]⟩, ⟨z30, 23, true, [.int .i64 0, .int .i64 0]⟩], [], z30 + 1⟩) = some ⟨[r.used = false, r.used = false, r.used = false, r.used = false, (!r.op) = false, (!r.op) = false, (!r.op) = false, (!r.op) = false, r.used = false, (!r.op) = false, r.used = false], dupR [(w.heap.size, 5, 1), (w.heap.size + 1, 0, 1)], [.code [1, 1, 1, 1, 1, 1, 1]], ⟨[(2, .pointer (some ⟨w.heap.size + 1, 0, none⟩))], [⟨w.heap.size, 25, true, (sr_v1 r)⟩, ⟨w.heap.size + 1, 4, true, [.bool false]⟩, ⟨w.heap.size + 2, 60, false, [.pointer (some ⟨w.heap.size, 0, none⟩)]⟩, ⟨z30, 23, true, [.int .i64 0, .int .i64 0]⟩], [], z30 + 1⟩⟩ := by kernel_rfl
theorem sr_r37 (r : RecM) (w : World) (z30 : Nat) : resL Try.prog [] [⟨w.heap.size, 25, true, (sr_v1 r)⟩, ⟨w.heap.size + 1, 4, true, [.bool false]⟩, ⟨w.heap.size + 2, 60, false, [.pointer (some ⟨w.heap.size, 0, none⟩)]⟩, ⟨z30, 23, true, [.int .i64 0, .int .i64 0]⟩] [(2, .pointer (some ⟨w.heap.size + 1, 0, none⟩))] Try.f14.results.toList [[⟨false, 1, 0, 1⟩]] = some ([.bool false], dupR [(w.heap.size + 1, 0, 1)]) := by kernel_rfl
theorem sr_s38 (r : RecM) (w : World) (z30 : Nat) : Res.prune [1, 2, 4, 43, 48] [] (exec Try.prog (bodyOf Try.f14) 67 8 [⟨true, 0, []⟩, ⟨true, 0, [⟨false, 0, 6, 2⟩]⟩, ⟨true, 0, [⟨false, 3, 0, 2⟩]⟩, ⟨true, 1, []⟩, ⟨true, 0, []⟩] [.ops [1, 1, 1, 1, 1, 0, 0] [4, 5, 6, 7, 8, 9, 10, 11, 12, 13], .code [1, 1, 1, 1, 1, 0, 1], .code [1, 1, 1, 1, 1, 1]] ⟨[(1, .pointer (some ⟨w.heap.size, 0, none⟩)), (2, .pointer (some ⟨w.heap.size + 1, 0, none⟩)), (4, .pointer (some ⟨z30, 0, none⟩)), (43, .bool (!r.op))], [⟨w.heap.size, 25, true, (sr_v1 r)⟩, ⟨w.heap.size + 1, 4, true, [.bool false]⟩, ⟨w.heap.size + 2, 60, false, [.pointer (some ⟨w.heap.size, 0, none⟩)]⟩, ⟨z30, 23, true, [.int .i64 0, .int .i64 0]⟩], [], z30 + 1⟩) = some ⟨[(!r.op) = true, (!r.op) = true, (!r.op) = true, (!r.op) = true, True, (!r.op) = true], dupR [(w.heap.size, 6, 2), (z30, 0, 2)], [.ops [1, 1, 1, 1, 1, 0, 0] [9, 10, 11, 12, 13], .code [1, 1, 1, 1, 1, 0, 1], .code [1, 1, 1, 1, 1, 1]], ⟨[(1, .pointer (some ⟨w.heap.size, 0, none⟩)), (2, .pointer (some ⟨w.heap.size + 1, 0, none⟩)), (4, .pointer (some ⟨z30, 0, none⟩)), (43, .bool (!r.op)), (48, .bool (!((((r.ie : Int) == 0) && (((r.is : Int) == 0) && true)))))], [⟨w.heap.size, 25, true, (sr_v1 r)⟩, ⟨w.heap.size + 1, 4, true, [.bool false]⟩, ⟨w.heap.size + 2, 60, false, [.pointer (some ⟨w.heap.size, 0, none⟩)]⟩, ⟨z30, 23, true, [.int .i64 0, .int .i64 0]⟩], [], z30 + 1⟩⟩ := by kernel_rfl
theorem sr_s39 (r : RecM) (w : World) (z30 : Nat) : Res.prune [1, 2, 4, 53] [] (exec Try.prog (bodyOf Try.f14) 67 9 [⟨false, 0, []⟩, ⟨false, 0, [⟨false, 0, 8, 1⟩]⟩, ⟨false, 0, []⟩, ⟨true, 3, []⟩, ⟨false, 2, []⟩] [.ops [1, 1, 1, 1, 1, 0, 0] [9, 10, 11, 12, 13], .code [1, 1, 1, 1, 1, 0, 1], .code [1, 1, 1, 1, 1, 1]] ⟨[(1, .pointer (some ⟨w.heap.size, 0, none⟩)), (2, .pointer (some ⟨w.heap.size + 1, 0, none⟩)), (4, .pointer (some ⟨z30, 0, none⟩)), (43, .bool (!r.op)), (48, .bool (!((((r.ie : Int) == 0) && (((r.is : Int) == 0) && true)))))], [⟨w.heap.size, 25, true, (sr_v1 r)⟩, ⟨w.heap.size + 1, 4, true, [.bool false]⟩, ⟨w.heap.size + 2, 60, false, [.pointer (some ⟨w.heap.size, 0, none⟩)]⟩, ⟨z30, 23, true, [.int .i64 0, .int .i64 0]⟩], [], z30 + 1⟩) = some ⟨[(!((((r.ie : Int) == 0) && (((r.is : Int) == 0) && true)))) = false, (!((((r.ie : Int) == 0) && (((r.is : Int) == 0) && true)))) = false, (!((((r.ie : Int) == 0) && (((r.is : Int) == 0) && true)))) = false, (!r.op) = true, (!((((r.ie : Int) == 0) && (((r.is : Int) == 0) && true)))) = false, (!r.op) = true], dupR [(w.heap.size, 8, 1)], [.code [1, 1, 1, 1, 1, 0, 1], .code [1, 1, 1, 1, 1, 1]], ⟨[(1, .pointer (some ⟨w.heap.size, 0, none⟩)), (2, .pointer (some ⟨w.heap.size + 1, 0, none⟩)), (4, .pointer (some ⟨z30, 0, none⟩)), (53, .bool (r.mask != 0))], [⟨w.heap.size, 25, true, (sr_v1 r)⟩, ⟨w.heap.size + 1, 4, true, [.bool false]⟩, ⟨w.heap.size + 2, 60, false, [.pointer (some ⟨w.heap.size, 0, none⟩)]⟩, ⟨z30, 23, true, [.int .i64 0, .int .i64 0]⟩], [], z30 + 1⟩⟩ := by kernel_rfl
theorem sr_s40 (r : RecM) (w : World) (z30 : Nat) : Res.prune [1, 2, 4] [] (exec Try.prog (bodyOf Try.f14) 67 8 [⟨true, 0, []⟩, ⟨false, 0, [⟨false, 1, 0, 1⟩]⟩] [.code [1, 1, 1, 1, 1, 0, 1], .code [1, 1, 1, 1, 1, 1]] ⟨[(1, .pointer (some ⟨w.heap.size, 0, none⟩)), (2, .pointer (some ⟨w.heap.size + 1, 0, none⟩)), (4, .pointer (some ⟨z30, 0, none⟩)), (53, .bool (r.mask != 0))], [⟨w.heap.size, 25, true, (sr_v1 r)⟩, ⟨w.heap.size + 1, 4, true, [.bool false]⟩, ⟨w.heap.size + 2, 60, false, [.pointer (some ⟨w.heap.size, 0, none⟩)]⟩, ⟨z30, 23, true, [.int .i64 0, .int .i64 0]⟩], [], z30 + 1⟩) = some ⟨[(r.mask != 0) = true], dupR [(w.heap.size + 1, 0, 1)], [.code [1, 1, 1, 1, 1, 0, 1, 0, 1], .code [1, 1, 1, 1, 1, 1]], ⟨[(1, .pointer (some ⟨w.heap.size, 0, none⟩)), (2, .pointer (some ⟨w.heap.size + 1, 0, none⟩)), (4, .pointer (some ⟨z30, 0, none⟩))], [⟨w.heap.size, 25, true, (sr_v1 r)⟩, ⟨w.heap.size + 1, 4, true, [.bool false]⟩, ⟨w.heap.size + 2, 60, false, [.pointer (some ⟨w.heap.size, 0, none⟩)]⟩, ⟨z30, 23, true, [.int .i64 0, .int .i64 0]⟩], [], z30 + 1⟩⟩ := by kernel_rfl
theorem sr_r41 (r : RecM) (w : World) (z30 : Nat) : resL Try.prog [] [⟨w.heap.size, 25, true, (sr_v1 r)⟩, ⟨w.heap.size + 1, 4, true, [.bool false]⟩, ⟨w.heap.size + 2, 60, false, [.pointer (some ⟨w.heap.size, 0, none⟩)]⟩, ⟨z30, 23, true, [.int .i64 0, .int .i64 0]⟩] [(1, .pointer (some ⟨w.heap.size, 0, none⟩)), (2, .pointer (some ⟨w.heap.size + 1, 0, none⟩)), (4, .pointer (some ⟨z30, 0, none⟩))] Try.f14.results.toList [[⟨false, 1, 0, 1⟩]] = some ([.bool false], dupR [(w.heap.size + 1, 0, 1)]) := by kernel_rfl
theorem sr_s42 (r : RecM) (w : World) (z30 : Nat) : Res.prune [1, 2, 4, 56] [] (exec Try.prog (bodyOf Try.f14) 67 10 [⟨false, 0, []⟩, ⟨false, 0, []⟩, ⟨false, 0, [⟨false, 0, 0, 1⟩]⟩, ⟨false, 0, []⟩] [.code [1, 1, 1, 1, 1, 0, 1], .code [1, 1, 1, 1, 1, 1]] ⟨[(1, .pointer (some ⟨w.heap.size, 0, none⟩)), (2, .pointer (some ⟨w.heap.size + 1, 0, none⟩)), (4, .pointer (some ⟨z30, 0, none⟩)), (53, .bool (r.mask != 0))], [⟨w.heap.size, 25, true, (sr_v1 r)⟩, ⟨w.heap.size + 1, 4, true, [.bool false]⟩, ⟨w.heap.size + 2, 60, false, [.pointer (some ⟨w.heap.size, 0, none⟩)]⟩, ⟨z30, 23, true, [.int .i64 0, .int .i64 0]⟩], [], z30 + 1⟩) = some ⟨[(r.mask != 0) = false], dupR [(w.heap.size, 0, 1)], [.ops [1, 1, 1, 1, 1, 1, 0] [3, 4, 5, 6, 7, 8, 9, 10, 11, 12, 13], .code [1, 1, 1, 1, 1, 1, 1]], ⟨[(1, .pointer (some ⟨w.heap.size, 0, none⟩)), (2, .pointer (some ⟨w.heap.size + 1, 0, none⟩)), (4, .pointer (some ⟨z30, 0, none⟩)), (56, .bool r.used)], [⟨w.heap.size, 25, true, (sr_v1 r)⟩, ⟨w.heap.size + 1, 4, true, [.bool false]⟩, ⟨w.heap.size + 2, 60, false, [.pointer (some ⟨w.heap.size, 0, none⟩)]⟩, ⟨z30, 23, true, [.int .i64 0, .int .i64 0]⟩], [], z30 + 1⟩⟩ := by kernel_rfl
theorem sr_s43 (r : RecM) (w : World) (z30 : Nat) : Res.prune [2] [] (exec Try.prog (bodyOf Try.f14) 67 15 [⟨true, 0, []⟩, ⟨true, 0, []⟩, ⟨true, 0, []⟩, ⟨true, 0, []⟩, ⟨false, 0, []⟩, ⟨false, 0, []⟩, ⟨false, 0, []⟩, ⟨false, 0, []⟩, ⟨true, 0, []⟩, ⟨false, 2, []⟩, ⟨false, 0, [⟨false, 1, 0, 1⟩]⟩] [.ops [1, 1, 1, 1, 1, 1, 0] [3, 4, 5, 6, 7, 8, 9, 10, 11, 12, 13], .code [1, 1, 1, 1, 1, 1, 1]] ⟨[(1, .pointer (some ⟨w.heap.size, 0, none⟩)), (2, .pointer (some ⟨w.heap.size + 1, 0, none⟩)), (4, .pointer (some ⟨z30, 0, none⟩)), (56, .bool r.used)], [⟨w.heap.size, 25, true, (sr_v1 r)⟩, ⟨w.heap.size + 1, 4, true, [.bool false]⟩, ⟨w.heap.size + 2, 60, false, [.pointer (some ⟨w.heap.size, 0, none⟩)]⟩, ⟨z30, 23, true, [.int .i64 0, .int .i64 0]⟩], [], z30 + 1⟩) = some ⟨[r.used = true, r.used = true, r.used = true, r.used = true, r.used = true, r.used = true], dupR [(w.heap.size + 1, 0, 1)], [.code [1, 1, 1, 1, 1, 1, 1]], ⟨[(2, .pointer (some ⟨w.heap.size + 1, 0, none⟩))], [⟨w.heap.size, 25, true, (sr_v1 r)⟩, ⟨w.heap.size + 1, 4, true, [.bool true]⟩, ⟨w.heap.size + 2, 60, false, [.pointer (some ⟨w.heap.size, 0, none⟩)]⟩, ⟨z30, 23, true, [.int .i64 0, .int .i64 0]⟩], [], z30 + 1⟩⟩ := by kernel_rfl
theorem sr_r44 (r : RecM) (w : World) (z30 : Nat) : resL Try.prog [] [⟨w.heap.size, 25, true, (sr_v1 r)⟩, ⟨w.heap.size + 1, 4, true, [.bool true]⟩, ⟨w.heap.size + 2, 60, false, [.pointer (some ⟨w.heap.size, 0, none⟩)]⟩, ⟨z30, 23, true, [.int .i64 0, .int .i64 0]⟩] [(2, .pointer (some ⟨w.heap.size + 1, 0, none⟩))] Try.f14.results.toList [[⟨false, 1, 0, 1⟩]] = some ([.bool true], dupR [(w.heap.size + 1, 0, 1)]) := by kernel_rfl
theorem sr_s45 (r : RecM) (w : World) (z30 : Nat) : Res.prune [2] [] (exec Try.prog (bodyOf Try.f14) 67 15 [⟨false, 0, []⟩, ⟨false, 0, [⟨false, 0, 5, 1⟩]⟩, ⟨false, 0, []⟩, ⟨false, 0, []⟩, ⟨true, 0, []⟩, ⟨true, 0, [⟨false, 0, 2, 2⟩]⟩, ⟨true, 0, [⟨false, 3, 0, 2⟩]⟩, ⟨true, 1, []⟩, ⟨false, 2, []⟩, ⟨false, 3, []⟩, ⟨false, 0, [⟨false, 1, 0, 1⟩]⟩] [.ops [1, 1, 1, 1, 1, 1, 0] [3, 4, 5, 6, 7, 8, 9, 10, 11, 12, 13], .code [1, 1, 1, 1, 1, 1, 1]] ⟨[(1, .pointer (some ⟨w.heap.size, 0, none⟩)), (2, .pointer (some ⟨w.heap.size + 1, 0, none⟩)), (4, .pointer (some ⟨z30, 0, none⟩)), (56, .bool r.used)], [⟨w.heap.size, 25, true, (sr_v1 r)⟩, ⟨w.heap.size + 1, 4, true, [.bool false]⟩, ⟨w.heap.size + 2, 60, false, [.pointer (some ⟨w.heap.size, 0, none⟩)]⟩, ⟨z30, 23, true, [.int .i64 0, .int .i64 0]⟩], [], z30 + 1⟩) = some ⟨[r.used = false, r.used = false, r.used = false, r.used = false, (!r.op) = true, (!r.op) = true, (!r.op) = true, (!r.op) = true, True, r.used = false, (!r.op) = true, r.used = false], dupR [(w.heap.size, 5, 1), (w.heap.size, 2, 2), (z30, 0, 2), (w.heap.size + 1, 0, 1)], [.code [1, 1, 1, 1, 1, 1, 1]], ⟨[(2, .pointer (some ⟨w.heap.size + 1, 0, none⟩))], [⟨w.heap.size, 25, true, (sr_v1 r)⟩, ⟨w.heap.size + 1, 4, true, [.bool (((r.de : Int) == 0) && (((r.ds : Int) == 0) && true))]⟩, ⟨w.heap.size + 2, 60, false, [.pointer (some ⟨w.heap.size, 0, none⟩)]⟩, ⟨z30, 23, true, [.int .i64 0, .int .i64 0]⟩], [], z30 + 1⟩⟩ := by kernel_rfl
theorem sr_r46 (r : RecM) (w : World) (z30 : Nat) : resL Try.prog [] [⟨w.heap.size, 25, true, (sr_v1 r)⟩, ⟨w.heap.size + 1, 4, true, [.bool (((r.de : Int) == 0) && (((r.ds : Int) == 0) && true))]⟩, ⟨w.heap.size + 2, 60, false, [.pointer (some ⟨w.heap.size, 0, none⟩)]⟩, ⟨z30, 23, true, [.int .i64 0, .int .i64 0]⟩] [(2, .pointer (some ⟨w.heap.size + 1, 0, none⟩))] Try.f14.results.toList [[⟨false, 1, 0, 1⟩]] = some ([.bool (((r.de : Int) == 0) && (((r.ds : Int) == 0) && true))], dupR [(w.heap.size + 1, 0, 1)]) := by kernel_rfl
theorem sr_s47 (r : RecM) (w : World) (z30 : Nat) : Res.prune [1, 2, 4] [] (exec Try.prog (bodyOf Try.f14) 67 14 [⟨true, 0, []⟩, ⟨true, 0, []⟩, ⟨true, 0, []⟩, ⟨true, 2, []⟩, ⟨false, 2, []⟩, ⟨true, 0, []⟩, ⟨false, 0, [⟨false, 1, 0, 1⟩]⟩] [.ops [1, 1, 1, 1, 1, 0, 0] [9, 10, 11, 12, 13], .code [1, 1, 1, 1, 1, 0, 1], .code [1, 1, 1, 1, 1, 1]] ⟨[(1, .pointer (some ⟨w.heap.size, 0, none⟩)), (2, .pointer (some ⟨w.heap.size + 1, 0, none⟩)), (4, .pointer (some ⟨z30, 0, none⟩)), (43, .bool (!r.op)), (48, .bool (!((((r.ie : Int) == 0) && (((r.is : Int) == 0) && true)))))], [⟨w.heap.size, 25, true, (sr_v1 r)⟩, ⟨w.heap.size + 1, 4, true, [.bool false]⟩, ⟨w.heap.size + 2, 60, false, [.pointer (some ⟨w.heap.size, 0, none⟩)]⟩, ⟨z30, 23, true, [.int .i64 0, .int .i64 0]⟩], [], z30 + 1⟩) = some ⟨[(!((((r.ie : Int) == 0) && (((r.is : Int) == 0) && true)))) = true, (!((((r.ie : Int) == 0) && (((r.is : Int) == 0) && true)))) = true, (!((((r.ie : Int) == 0) && (((r.is : Int) == 0) && true)))) = true, (!r.op) = true, (!((((r.ie : Int) == 0) && (((r.is : Int) == 0) && true)))) = true, (!r.op) = true, true = true], dupR [(w.heap.size + 1, 0, 1)], [.code [1, 1, 1, 1, 1, 0, 1, 0, 1], .code [1, 1, 1, 1, 1, 1]], ⟨[(1, .pointer (some ⟨w.heap.size, 0, none⟩)), (2, .pointer (some ⟨w.heap.size + 1, 0, none⟩)), (4, .pointer (some ⟨z30, 0, none⟩))], [⟨w.heap.size, 25, true, (sr_v1 r)⟩, ⟨w.heap.size + 1, 4, true, [.bool false]⟩, ⟨w.heap.size + 2, 60, false, [.pointer (some ⟨w.heap.size, 0, none⟩)]⟩, ⟨z30, 23, true, [.int .i64 0, .int .i64 0]⟩], [], z30 + 1⟩⟩ := by kernel_rfl
theorem sr_r48 (r : RecM) (w : World) (z30 : Nat) : resL Try.prog [] [⟨w.heap.size, 25, true, (sr_v1 r)⟩, ⟨w.heap.size + 1, 4, true, [.bool false]⟩, ⟨w.heap.size + 2, 60, false, [.pointer (some ⟨w.heap.size, 0, none⟩)]⟩, ⟨z30, 23, true, [.int .i64 0, .int .i64 0]⟩] [(1, .pointer (some ⟨w.heap.size, 0, none⟩)), (2, .pointer (some ⟨w.heap.size + 1, 0, none⟩)), (4, .pointer (some ⟨z30, 0, none⟩))] Try.f14.results.toList [[⟨false, 1, 0, 1⟩]] = some ([.bool false], dupR [(w.heap.size + 1, 0, 1)]) := by kernel_rfl
theorem sr_s49 (r : RecM) (w : World) (z30 : Nat) : Res.prune [1, 2] [] (exec Try.prog (bodyOf Try.f14) 67 8 [⟨true, 0, []⟩, ⟨false, 0, [⟨false, 1, 0, 1⟩]⟩] [.code [1, 1, 1, 0, 1], .code [1, 1, 1, 1]] ⟨[(1, .pointer (some ⟨w.heap.size, 0, none⟩)), (2, .pointer (some ⟨w.heap.size + 1, 0, none⟩)), (38, .bool (!(fitB r.staged r.op)))], [⟨w.heap.size, 25, true, (sr_v1 r)⟩, ⟨w.heap.size + 1, 4, true, [.bool false]⟩, ⟨w.heap.size + 2, 60, false, [.pointer (some ⟨w.heap.size, 0, none⟩)]⟩], [], z30⟩) = some ⟨[(!(fitB r.staged r.op)) = true], dupR [(w.heap.size + 1, 0, 1)], [.code [1, 1, 1, 0, 1, 0, 1], .code [1, 1, 1, 1]], ⟨[(1, .pointer (some ⟨w.heap.size, 0, none⟩)), (2, .pointer (some ⟨w.heap.size + 1, 0, none⟩))], [⟨w.heap.size, 25, true, (sr_v1 r)⟩, ⟨w.heap.size + 1, 4, true, [.bool false]⟩, ⟨w.heap.size + 2, 60, false, [.pointer (some ⟨w.heap.size, 0, none⟩)]⟩], [], z30⟩⟩ := by kernel_rfl
theorem sr_r50 (r : RecM) (w : World) : resL Try.prog [] [⟨w.heap.size, 25, true, (sr_v1 r)⟩, ⟨w.heap.size + 1, 4, true, [.bool false]⟩, ⟨w.heap.size + 2, 60, false, [.pointer (some ⟨w.heap.size, 0, none⟩)]⟩] [(1, .pointer (some ⟨w.heap.size, 0, none⟩)), (2, .pointer (some ⟨w.heap.size + 1, 0, none⟩))] Try.f14.results.toList [[⟨false, 1, 0, 1⟩]] = some ([.bool false], dupR [(w.heap.size + 1, 0, 1)]) := by kernel_rfl
theorem sr_s51 (r : RecM) (w : World) (z27 : Nat) : Res.prune [1, 2] [] (exec Try.prog (bodyOf Try.f14) 67 16 [⟨true, 0, []⟩, ⟨true, 0, []⟩, ⟨true, 0, []⟩, ⟨true, 0, []⟩, ⟨true, 0, []⟩, ⟨true, 0, []⟩, ⟨false, 2, []⟩, ⟨true, 0, []⟩, ⟨false, 0, [⟨false, 1, 0, 1⟩]⟩] [.ops [1, 1, 1, 0, 0] [7, 8, 9, 10, 11, 12, 13], .code [1, 1, 1, 0, 1], .code [1, 1, 1, 1]] ⟨[(1, .pointer (some ⟨w.heap.size, 0, none⟩)), (2, .pointer (some ⟨w.heap.size + 1, 0, none⟩)), (31, .bool (!(fitB r.block r.used)))], [⟨w.heap.size, 25, true, (sr_v1 r)⟩, ⟨w.heap.size + 1, 4, true, [.bool false]⟩, ⟨w.heap.size + 2, 60, false, [.pointer (some ⟨w.heap.size, 0, none⟩)]⟩], [], z27⟩) = some ⟨[(!(fitB r.block r.used)) = true, (!(fitB r.block r.used)) = true, (!(fitB r.block r.used)) = true, (!(fitB r.block r.used)) = true, (!(fitB r.block r.used)) = true, (!(fitB r.block r.used)) = true, (!(fitB r.block r.used)) = true, true = true], dupR [(w.heap.size + 1, 0, 1)], [.code [1, 1, 1, 0, 1, 0, 1], .code [1, 1, 1, 1]], ⟨[(1, .pointer (some ⟨w.heap.size, 0, none⟩)), (2, .pointer (some ⟨w.heap.size + 1, 0, none⟩))], [⟨w.heap.size, 25, true, (sr_v1 r)⟩, ⟨w.heap.size + 1, 4, true, [.bool false]⟩, ⟨w.heap.size + 2, 60, false, [.pointer (some ⟨w.heap.size, 0, none⟩)]⟩], [], z27⟩⟩ := by kernel_rfl
theorem sr_r52 (r : RecM) (w : World) : resL Try.prog [] [⟨w.heap.size, 25, true, (sr_v1 r)⟩, ⟨w.heap.size + 1, 4, true, [.bool false]⟩, ⟨w.heap.size + 2, 60, false, [.pointer (some ⟨w.heap.size, 0, none⟩)]⟩] [(1, .pointer (some ⟨w.heap.size, 0, none⟩)), (2, .pointer (some ⟨w.heap.size + 1, 0, none⟩))] Try.f14.results.toList [[⟨false, 1, 0, 1⟩]] = some ([.bool false], dupR [(w.heap.size + 1, 0, 1)]) := by kernel_rfl
set_option maxRecDepth 100000 in
set_option maxHeartbeats 4000000 in
theorem right_any (r : RecM) (w : World) :
    Calls Try.prog 14 #[.agg #[.bool r.used, .int .i64 r.fence, .int .i64 r.de, .int .i64 r.ds, .string r.block, .bool r.op, .int .i64 r.ie, .int .i64 r.is, .int .i64 r.mask, .string r.staged]] w (RetK (.bool (okB r)) w) := by
  refine calls_of_holdsM (m := 5) (S := (fun _ => False)) (l := [.agg (List.toArray (sr_v1 r))]) (n := 67) Try.func14 (body_of (by kernel_rfl)) rfl (by simp) (MemOk.none w _) ?_
  refine holds_go _ _ (sr_s1 r w) trivial ?_
  refine holds_callM (.func (.func 39) #[] #[.pointer (some ⟨w.heap.size + 2, 0, none⟩)]) [⟨w.heap.size, 25, true, (sr_v1 r)⟩, ⟨w.heap.size + 1, 4, true, [.bool false]⟩, ⟨w.heap.size + 2, 60, false, [.pointer (some ⟨w.heap.size, 0, none⟩)]⟩] (sr_c2 w) trivial rfl (fun wx hm => ?_) fun z2 hz2 => ?_
  · refine (nums_any _ wx).mono fun e w' he => ?_
    obtain ⟨h7, h8, h9⟩ := he
    rw [hm.size] at h7 h8
    exact ⟨h7, hm.add h9 [⟨w.heap.size + 2, 60, false, [.pointer (some ⟨w.heap.size, 0, none⟩)]⟩] ⟨h8, trivial⟩ (by simp) (by simp)⟩
  replace hz2 : w.heap.size + 2 ≤ z2 := hz2
  refine holds_go _ _ (sr_s3 r w z2) trivial ?_
  refine holds_range (α := Nat) (wn := []) (Bn := w.heap.size + 2) (N := 5) (enc := fun i => .pointer (some ⟨w.heap.size, numOff i, none⟩)) (Sq := fun xs => xs = [0, 1, 2, 3, 4]) (Spq := NumsSp) rfl rfl (enters_of Try.func39 (by kernel_rfl) rfl) (fun wx hm => hm.size ▸ (hm.at_ 2 rfl).lt) (by rintro ⟨b, hb, hr, he⟩; simp at hb; rcases hb with rfl | rfl | rfl <;> simp at he hr) (fun wx hm => nums_stops _ _ _ wx (hm.at_ 2 rfl))
    (fun pre => ∀ x ∈ pre, n24 (numV r x) = true) (fun pre => ∃ x ∈ pre, n24 (numV r x) = false) (fun _ => [⟨w.heap.size, 25, true, (sr_v1 r)⟩, ⟨w.heap.size + 1, 4, true, [.bool false]⟩, ⟨w.heap.size + 2, 60, false, [.pointer (some ⟨w.heap.size, 0, none⟩)]⟩]) (fun _ => [⟨w.heap.size, 25, true, (sr_v1 r)⟩, ⟨w.heap.size + 1, 4, true, [.bool false]⟩, ⟨w.heap.size + 2, 60, false, [.pointer (some ⟨w.heap.size, 0, none⟩)]⟩]) rfl (by simp) (fun _ => rfl) (fun _ => rfl) (fun x => [(3, .pointer (some ⟨w.heap.size, numOff x, none⟩)), (6, .pointer (some ⟨w.heap.size, numOff x, none⟩)), (1, .pointer (some ⟨w.heap.size, 0, none⟩)), (2, .pointer (some ⟨w.heap.size + 1, 0, none⟩)), (5, .func (.func 39) #[] #[.pointer (some ⟨w.heap.size + 2, 0, none⟩)])]) (fun x => [(6, .pointer (some ⟨w.heap.size, numOff x, none⟩)), (1, .pointer (some ⟨w.heap.size, 0, none⟩)), (2, .pointer (some ⟨w.heap.size + 1, 0, none⟩)), (5, .func (.func 39) #[] #[.pointer (some ⟨w.heap.size + 2, 0, none⟩)])]) (fun _ => rfl) ?_ ?_ ?_ ?_
  · intro x l W
    refine holdsR_go (fun _ => trivial) _ _ (sr_s4 w W x) trivial ?_
    exact holdsR_end (fun a wx hf hm => ⟨rfl, hm.kept, hf⟩)
  · intro l pre x W Z hZ hI _
    have hx : (numOff x = 1 ∧ numV r x = r.fence) ∨ (numOff x = 2 ∧ numV r x = r.de) ∨ (numOff x = 3 ∧ numV r x = r.ds) ∨ (numOff x = 6 ∧ numV r x = r.ie) ∨ (numOff x = 7 ∧ numV r x = r.is) := numV_is r x
    rcases hx with ⟨hx, hv⟩ | ⟨hx, hv⟩ | ⟨hx, hv⟩ | ⟨hx, hv⟩ | ⟨hx, hv⟩ <;> rw [hx]
    · skip
      by_cases hlo : r.fence < 0
      · skip
        refine holdsR_go (fun _ => trivial) _ _ (sr_s5 r w Z) ⟨decide_eq_true hlo, decide_eq_true hlo, decide_eq_true hlo, decide_eq_true hlo, decide_eq_true hlo, rfl, trivial⟩ ?_
        exact holdsR_ret (by kernel_rfl) (fun a wx hf hm => .inr ⟨rfl, ⟨x, by simp, by rw [hv]; exact n24_not (by omega)⟩, hm.here⟩)
      · skip
        by_cases hhi : r.fence > 16777215
        · skip
          refine holdsR_go (fun _ => trivial) _ _ (sr_s6 r w Z) ⟨decide_eq_false hlo, decide_eq_false hlo, decide_eq_false hlo, decide_eq_false hlo, decide_eq_false hlo, decide_eq_true hhi, trivial⟩ ?_
          exact holdsR_ret (by kernel_rfl) (fun a wx hf hm => .inr ⟨rfl, ⟨x, by simp, by rw [hv]; exact n24_not (by omega)⟩, hm.here⟩)
        · skip
          refine holdsR_go (fun _ => trivial) _ _ (sr_s7 r w Z) ⟨decide_eq_false hlo, decide_eq_false hlo, decide_eq_false hlo, decide_eq_false hlo, decide_eq_false hlo, decide_eq_false hhi, trivial⟩ ?_
          exact holdsR_end (fun a wx hf hm => .inl ⟨rfl, all_snoc hI (by rw [hv]; exact (n24_iff _).2 (by omega)), hm.here⟩)
    · skip
      by_cases hlo : r.de < 0
      · skip
        refine holdsR_go (fun _ => trivial) _ _ (sr_s8 r w Z) ⟨decide_eq_true hlo, decide_eq_true hlo, decide_eq_true hlo, decide_eq_true hlo, decide_eq_true hlo, rfl, trivial⟩ ?_
        exact holdsR_ret (by kernel_rfl) (fun a wx hf hm => .inr ⟨rfl, ⟨x, by simp, by rw [hv]; exact n24_not (by omega)⟩, hm.here⟩)
      · skip
        by_cases hhi : r.de > 16777215
        · skip
          refine holdsR_go (fun _ => trivial) _ _ (sr_s9 r w Z) ⟨decide_eq_false hlo, decide_eq_false hlo, decide_eq_false hlo, decide_eq_false hlo, decide_eq_false hlo, decide_eq_true hhi, trivial⟩ ?_
          exact holdsR_ret (by kernel_rfl) (fun a wx hf hm => .inr ⟨rfl, ⟨x, by simp, by rw [hv]; exact n24_not (by omega)⟩, hm.here⟩)
        · skip
          refine holdsR_go (fun _ => trivial) _ _ (sr_s10 r w Z) ⟨decide_eq_false hlo, decide_eq_false hlo, decide_eq_false hlo, decide_eq_false hlo, decide_eq_false hlo, decide_eq_false hhi, trivial⟩ ?_
          exact holdsR_end (fun a wx hf hm => .inl ⟨rfl, all_snoc hI (by rw [hv]; exact (n24_iff _).2 (by omega)), hm.here⟩)
    · skip
      by_cases hlo : r.ds < 0
      · skip
        refine holdsR_go (fun _ => trivial) _ _ (sr_s11 r w Z) ⟨decide_eq_true hlo, decide_eq_true hlo, decide_eq_true hlo, decide_eq_true hlo, decide_eq_true hlo, rfl, trivial⟩ ?_
        exact holdsR_ret (by kernel_rfl) (fun a wx hf hm => .inr ⟨rfl, ⟨x, by simp, by rw [hv]; exact n24_not (by omega)⟩, hm.here⟩)
      · skip
        by_cases hhi : r.ds > 16777215
        · skip
          refine holdsR_go (fun _ => trivial) _ _ (sr_s12 r w Z) ⟨decide_eq_false hlo, decide_eq_false hlo, decide_eq_false hlo, decide_eq_false hlo, decide_eq_false hlo, decide_eq_true hhi, trivial⟩ ?_
          exact holdsR_ret (by kernel_rfl) (fun a wx hf hm => .inr ⟨rfl, ⟨x, by simp, by rw [hv]; exact n24_not (by omega)⟩, hm.here⟩)
        · skip
          refine holdsR_go (fun _ => trivial) _ _ (sr_s13 r w Z) ⟨decide_eq_false hlo, decide_eq_false hlo, decide_eq_false hlo, decide_eq_false hlo, decide_eq_false hlo, decide_eq_false hhi, trivial⟩ ?_
          exact holdsR_end (fun a wx hf hm => .inl ⟨rfl, all_snoc hI (by rw [hv]; exact (n24_iff _).2 (by omega)), hm.here⟩)
    · skip
      by_cases hlo : r.ie < 0
      · skip
        refine holdsR_go (fun _ => trivial) _ _ (sr_s14 r w Z) ⟨decide_eq_true hlo, decide_eq_true hlo, decide_eq_true hlo, decide_eq_true hlo, decide_eq_true hlo, rfl, trivial⟩ ?_
        exact holdsR_ret (by kernel_rfl) (fun a wx hf hm => .inr ⟨rfl, ⟨x, by simp, by rw [hv]; exact n24_not (by omega)⟩, hm.here⟩)
      · skip
        by_cases hhi : r.ie > 16777215
        · skip
          refine holdsR_go (fun _ => trivial) _ _ (sr_s15 r w Z) ⟨decide_eq_false hlo, decide_eq_false hlo, decide_eq_false hlo, decide_eq_false hlo, decide_eq_false hlo, decide_eq_true hhi, trivial⟩ ?_
          exact holdsR_ret (by kernel_rfl) (fun a wx hf hm => .inr ⟨rfl, ⟨x, by simp, by rw [hv]; exact n24_not (by omega)⟩, hm.here⟩)
        · skip
          refine holdsR_go (fun _ => trivial) _ _ (sr_s16 r w Z) ⟨decide_eq_false hlo, decide_eq_false hlo, decide_eq_false hlo, decide_eq_false hlo, decide_eq_false hlo, decide_eq_false hhi, trivial⟩ ?_
          exact holdsR_end (fun a wx hf hm => .inl ⟨rfl, all_snoc hI (by rw [hv]; exact (n24_iff _).2 (by omega)), hm.here⟩)
    · skip
      by_cases hlo : r.is < 0
      · skip
        refine holdsR_go (fun _ => trivial) _ _ (sr_s17 r w Z) ⟨decide_eq_true hlo, decide_eq_true hlo, decide_eq_true hlo, decide_eq_true hlo, decide_eq_true hlo, rfl, trivial⟩ ?_
        exact holdsR_ret (by kernel_rfl) (fun a wx hf hm => .inr ⟨rfl, ⟨x, by simp, by rw [hv]; exact n24_not (by omega)⟩, hm.here⟩)
      · skip
        by_cases hhi : r.is > 16777215
        · skip
          refine holdsR_go (fun _ => trivial) _ _ (sr_s18 r w Z) ⟨decide_eq_false hlo, decide_eq_false hlo, decide_eq_false hlo, decide_eq_false hlo, decide_eq_false hlo, decide_eq_true hhi, trivial⟩ ?_
          exact holdsR_ret (by kernel_rfl) (fun a wx hf hm => .inr ⟨rfl, ⟨x, by simp, by rw [hv]; exact n24_not (by omega)⟩, hm.here⟩)
        · skip
          refine holdsR_go (fun _ => trivial) _ _ (sr_s19 r w Z) ⟨decide_eq_false hlo, decide_eq_false hlo, decide_eq_false hlo, decide_eq_false hlo, decide_eq_false hlo, decide_eq_false hhi, trivial⟩ ?_
          exact holdsR_end (fun a wx hf hm => .inl ⟨rfl, all_snoc hI (by rw [hv]; exact (n24_iff _).2 (by omega)), hm.here⟩)
  · rintro D xs W rfl hI hmW hD hW hK
    have hKT : ¬ Turned [⟨w.heap.size, 25, true, (sr_v1 r)⟩, ⟨w.heap.size + 1, 4, true, [.bool false]⟩, ⟨w.heap.size + 2, 60, false, [.pointer (some ⟨w.heap.size, 0, none⟩)]⟩] D := not_turned hmW hK
    have n0 : n24 r.fence = true := hI 0 (by simp)
    have n1 : n24 r.de = true := hI 1 (by simp)
    have n2 : n24 r.ds = true := hI 2 (by simp)
    have n3 : n24 r.ie = true := hI 3 (by simp)
    have n4 : n24 r.is = true := hI 4 (by simp)
    refine holds_go _ _ (sr_s20 r w W) trivial ?_
    rcases Bool.eq_false_or_eq_true (decide ((r.mask : Int) < 0)) with d1 | d1
    · skip
      refine holds_go _ _ (sr_s21 r w W) ⟨d1, d1, d1, d1, rfl, trivial⟩ ?_
      refine holds_retM [[⟨false, 1, 0, 1⟩]] (Array.getElem?_eq_some_iff.1 hK).1 hK hKT (by kernel_rfl) (sr_r22 r w) (fun wx hm => ?_)
      refine ⟨ret_bool ?_, range_kept hmW hm.kept (fun k hk hT => ?_)⟩
      · unfold okB tagB
        rw [n0, n1, n2, n3, n4]
        clear hm hmW hKT hK hI hD hW 
        simp_all
      rcases hT with ⟨b, hb, hr, he⟩ | rfl
      · simp at hb; rcases hb with rfl | rfl | rfl <;> simp at he hr <;> omega
      · omega
    · skip
      refine holds_go _ _ (sr_s23 r w W) ⟨d1, d1, d1, d1, trivial⟩ ?_
      rcases Bool.eq_false_or_eq_true (decide ((r.mask : Int) > 63)) with d2 | d2
      · skip
        refine holds_go _ _ (sr_s24 r w W) ⟨d2, trivial⟩ ?_
        refine holds_retM [[⟨false, 1, 0, 1⟩]] (Array.getElem?_eq_some_iff.1 hK).1 hK hKT (by kernel_rfl) (sr_r25 r w) (fun wx hm => ?_)
        refine ⟨ret_bool ?_, range_kept hmW hm.kept (fun k hk hT => ?_)⟩
        · unfold okB tagB
          rw [n0, n1, n2, n3, n4]
          clear hm hmW hKT hK hI hD hW 
          simp_all
        rcases hT with ⟨b, hb, hr, he⟩ | rfl
        · simp at hb; rcases hb with rfl | rfl | rfl <;> simp at he hr <;> omega
        · omega
      · skip
        refine holds_go _ _ (sr_s26 r w W) ⟨d2, trivial⟩ ?_
        refine holds_callP (.bool (fitB r.block r.used)) (sr_c27 r w) trivial rfl (fun wx hm => fits_any _ _ wx) fun z27 hz27 => ?_
        replace hz27 : W.heap.size ≤ z27 := hz27
        refine holds_go _ _ (sr_s28 r w z27) trivial ?_
        rcases Bool.eq_false_or_eq_true (fitB r.block r.used) with d3 | d3
        · skip
          refine holds_go _ _ (sr_s29 r w z27) ⟨(by rw [d3]; rfl), (by rw [d3]; rfl), (by rw [d3]; rfl), (by rw [d3]; rfl), trivial⟩ ?_
          refine holds_callP (.bool (fitB r.staged r.op)) (sr_c30 r w) ⟨(by rw [d3]; rfl), trivial⟩ rfl (fun wx hm => fits_any _ _ wx) fun z30 hz30 => ?_
          replace hz30 : z27 ≤ z30 := hz30
          refine holds_go _ _ (sr_s31 r w z30) ⟨(by rw [d3]; rfl), (by rw [d3]; rfl), trivial⟩ ?_
          rcases Bool.eq_false_or_eq_true (fitB r.staged r.op) with d4 | d4
          · skip
            refine holds_go _ _ (sr_s32 r w z30) ⟨(by rw [d4]; rfl), trivial⟩ ?_
            rcases Bool.eq_false_or_eq_true (r.op) with d5 | d5
            · skip
              refine holds_go _ _ (sr_s33 r w z30) ⟨(by rw [d5]; rfl), (by rw [d5]; rfl), (by rw [d5]; rfl), (by rw [d5]; rfl), (by rw [d5]; rfl), (by rw [d5]; rfl), (by rw [d5]; rfl), rfl, trivial⟩ ?_
              rcases Bool.eq_false_or_eq_true (r.used) with d6 | d6
              · skip
                refine holds_go _ _ (sr_s34 r w z30) ⟨d6, d6, d6, d6, d6, d6, trivial⟩ ?_
                refine holds_retM [[⟨false, 1, 0, 1⟩]] (Array.getElem?_eq_some_iff.1 hK).1 hK hKT (by kernel_rfl) (sr_r35 r w z30) (fun wx hm => ?_)
                refine ⟨ret_bool ?_, range_kept hmW hm.kept (fun k hk hT => ?_)⟩
                · unfold okB tagB
                  rw [n0, n1, n2, n3, n4, d4, d3]
                  clear hm hmW hKT hK hI hD hW d3 d4
                  simp_all
                rcases hT with ⟨b, hb, hr, he⟩ | rfl
                · simp at hb; rcases hb with rfl | rfl | rfl <;> simp at he hr <;> omega
                · omega
              · skip
                refine holds_go _ _ (sr_s36 r w z30) ⟨d6, d6, d6, d6, (by rw [d5]; rfl), (by rw [d5]; rfl), (by rw [d5]; rfl), (by rw [d5]; rfl), d6, (by rw [d5]; rfl), d6, trivial⟩ ?_
                refine holds_retM [[⟨false, 1, 0, 1⟩]] (Array.getElem?_eq_some_iff.1 hK).1 hK hKT (by kernel_rfl) (sr_r37 r w z30) (fun wx hm => ?_)
                refine ⟨ret_bool ?_, range_kept hmW hm.kept (fun k hk hT => ?_)⟩
                · unfold okB tagB
                  rw [n0, n1, n2, n3, n4, d4, d3]
                  clear hm hmW hKT hK hI hD hW d3 d4
                  simp_all
                rcases hT with ⟨b, hb, hr, he⟩ | rfl
                · simp at hb; rcases hb with rfl | rfl | rfl <;> simp at he hr <;> omega
                · omega
            · skip
              refine holds_go _ _ (sr_s38 r w z30) ⟨(by rw [d5]; rfl), (by rw [d5]; rfl), (by rw [d5]; rfl), (by rw [d5]; rfl), trivial, (by rw [d5]; rfl), trivial⟩ ?_
              rcases Bool.eq_false_or_eq_true ((((r.ie : Int) == 0) && (((r.is : Int) == 0) && true))) with d7 | d7
              · skip
                refine holds_go _ _ (sr_s39 r w z30) ⟨(by rw [d7]; rfl), (by rw [d7]; rfl), (by rw [d7]; rfl), (by rw [d5]; rfl), (by rw [d7]; rfl), (by rw [d5]; rfl), trivial⟩ ?_
                rcases Bool.eq_false_or_eq_true (r.mask != 0) with d8 | d8
                · skip
                  refine holds_go _ _ (sr_s40 r w z30) ⟨d8, trivial⟩ ?_
                  refine holds_retM [[⟨false, 1, 0, 1⟩]] (Array.getElem?_eq_some_iff.1 hK).1 hK hKT (by kernel_rfl) (sr_r41 r w z30) (fun wx hm => ?_)
                  refine ⟨ret_bool ?_, range_kept hmW hm.kept (fun k hk hT => ?_)⟩
                  · unfold okB tagB
                    rw [n0, n1, n2, n3, n4, d4, d3]
                    clear hm hmW hKT hK hI hD hW d3 d4
                    simp_all
                  rcases hT with ⟨b, hb, hr, he⟩ | rfl
                  · simp at hb; rcases hb with rfl | rfl | rfl <;> simp at he hr <;> omega
                  · omega
                · skip
                  refine holds_go _ _ (sr_s42 r w z30) ⟨d8, trivial⟩ ?_
                  rcases Bool.eq_false_or_eq_true (r.used) with d9 | d9
                  · skip
                    refine holds_go _ _ (sr_s43 r w z30) ⟨d9, d9, d9, d9, d9, d9, trivial⟩ ?_
                    refine holds_retM [[⟨false, 1, 0, 1⟩]] (Array.getElem?_eq_some_iff.1 hK).1 hK hKT (by kernel_rfl) (sr_r44 r w z30) (fun wx hm => ?_)
                    refine ⟨ret_bool ?_, range_kept hmW hm.kept (fun k hk hT => ?_)⟩
                    · unfold okB tagB
                      rw [n0, n1, n2, n3, n4, d4, d3]
                      clear hm hmW hKT hK hI hD hW d3 d4
                      simp_all
                    rcases hT with ⟨b, hb, hr, he⟩ | rfl
                    · simp at hb; rcases hb with rfl | rfl | rfl <;> simp at he hr <;> omega
                    · omega
                  · skip
                    refine holds_go _ _ (sr_s45 r w z30) ⟨d9, d9, d9, d9, (by rw [d5]; rfl), (by rw [d5]; rfl), (by rw [d5]; rfl), (by rw [d5]; rfl), trivial, d9, (by rw [d5]; rfl), d9, trivial⟩ ?_
                    refine holds_retM [[⟨false, 1, 0, 1⟩]] (Array.getElem?_eq_some_iff.1 hK).1 hK hKT (by kernel_rfl) (sr_r46 r w z30) (fun wx hm => ?_)
                    refine ⟨ret_bool ?_, range_kept hmW hm.kept (fun k hk hT => ?_)⟩
                    · unfold okB tagB
                      rw [n0, n1, n2, n3, n4, d4, d3]
                      clear hm hmW hKT hK hI hD hW d3 d4
                      simp_all
                    rcases hT with ⟨b, hb, hr, he⟩ | rfl
                    · simp at hb; rcases hb with rfl | rfl | rfl <;> simp at he hr <;> omega
                    · omega
              · skip
                refine holds_go _ _ (sr_s47 r w z30) ⟨(by rw [d7]; rfl), (by rw [d7]; rfl), (by rw [d7]; rfl), (by rw [d5]; rfl), (by rw [d7]; rfl), (by rw [d5]; rfl), rfl, trivial⟩ ?_
                refine holds_retM [[⟨false, 1, 0, 1⟩]] (Array.getElem?_eq_some_iff.1 hK).1 hK hKT (by kernel_rfl) (sr_r48 r w z30) (fun wx hm => ?_)
                refine ⟨ret_bool ?_, range_kept hmW hm.kept (fun k hk hT => ?_)⟩
                · unfold okB tagB
                  rw [n0, n1, n2, n3, n4, d4, d3]
                  clear hm hmW hKT hK hI hD hW d3 d4
                  simp_all
                rcases hT with ⟨b, hb, hr, he⟩ | rfl
                · simp at hb; rcases hb with rfl | rfl | rfl <;> simp at he hr <;> omega
                · omega
          · skip
            refine holds_go _ _ (sr_s49 r w z30) ⟨(by rw [d4]; rfl), trivial⟩ ?_
            refine holds_retM [[⟨false, 1, 0, 1⟩]] (Array.getElem?_eq_some_iff.1 hK).1 hK hKT (by kernel_rfl) (sr_r50 r w) (fun wx hm => ?_)
            refine ⟨ret_bool ?_, range_kept hmW hm.kept (fun k hk hT => ?_)⟩
            · unfold okB tagB
              rw [n0, n1, n2, n3, n4, d4, d3]
              clear hm hmW hKT hK hI hD hW d3 d4
              simp_all
            rcases hT with ⟨b, hb, hr, he⟩ | rfl
            · simp at hb; rcases hb with rfl | rfl | rfl <;> simp at he hr <;> omega
            · omega
        · skip
          refine holds_go _ _ (sr_s51 r w z27) ⟨(by rw [d3]; rfl), (by rw [d3]; rfl), (by rw [d3]; rfl), (by rw [d3]; rfl), (by rw [d3]; rfl), (by rw [d3]; rfl), (by rw [d3]; rfl), rfl, trivial⟩ ?_
          refine holds_retM [[⟨false, 1, 0, 1⟩]] (Array.getElem?_eq_some_iff.1 hK).1 hK hKT (by kernel_rfl) (sr_r52 r w) (fun wx hm => ?_)
          refine ⟨ret_bool ?_, range_kept hmW hm.kept (fun k hk hT => ?_)⟩
          · unfold okB tagB
            rw [n0, n1, n2, n3, n4, d3]
            clear hm hmW hKT hK hI hD hW d3
            simp_all
          rcases hT with ⟨b, hb, hr, he⟩ | rfl
          · simp at hb; rcases hb with rfl | rfl | rfl <;> simp at he hr <;> omega
          · omega
  · rintro D pre W hsp ⟨x, hx, hb⟩ hmW hD hW hK a hf
    have hKT : ¬ Turned [⟨w.heap.size, 25, true, (sr_v1 r)⟩, ⟨w.heap.size + 1, 4, true, [.bool false]⟩, ⟨w.heap.size + 2, 60, false, [.pointer (some ⟨w.heap.size, 0, none⟩)]⟩] D := not_turned hmW hK
    refine leavesM [[⟨false, 1, 0, 1⟩]] (sz := W.heap.size) (vs := [.bool false]) (rs := [(w.heap.size + 1, 0, 1)]) (bk := [⟨w.heap.size, 25, true, (sr_v1 r)⟩, ⟨w.heap.size + 1, 4, true, [.bool false]⟩, ⟨w.heap.size + 2, 60, false, [.pointer (some ⟨w.heap.size, 0, none⟩)]⟩]) (sl := [(1, .pointer (some ⟨w.heap.size, 0, none⟩)), (2, .pointer (some ⟨w.heap.size + 1, 0, none⟩)), (5, .func (.func 39) #[] #[.pointer (some ⟨w.heap.size + 2, 0, none⟩)])]) (by kernel_rfl) (fun wx hm => ?_) hf hmW hK
    refine ⟨ret_bool (okB_nums hb).symm, hm.kept.mono (fun k hk hT => ?_)⟩
    rcases hT with hT | rfl
    · exact hT.elim
    · omega

theorem tg8_s1 (a : Int) (b : Int) (w : World) : Res.prune [1, 2, 6] [] (exec Try.prog (bodyOf Try.f31) 21 14 [⟨false, 0, []⟩, ⟨false, 0, []⟩, ⟨false, 0, []⟩, ⟨false, 0, [⟨false, 0, 0, 1⟩]⟩, ⟨false, 0, []⟩, ⟨false, 0, []⟩] [.code []] ⟨[(0, .agg #[.int .i64 a, .int .i64 b])], [], [], w.heap.size⟩) = some ⟨[], dupR [(w.heap.size, 0, 1)], [.ops [1, 0] [4, 5, 6, 7, 8, 9, 10, 11, 12, 13, 14, 15, 16, 17, 18], .code [1, 1]], ⟨[(1, .pointer (some ⟨w.heap.size, 0, none⟩)), (2, .bool false), (6, .bool (decide ((a : Int) ≥ 0)))], [⟨w.heap.size, 23, true, [.int .i64 a, .int .i64 b]⟩], [], w.heap.size + 1⟩⟩ := by kernel_rfl
theorem tg8_s2 (a : Int) (b : Int) (w : World) : Res.prune [1, 2, 11] [] (exec Try.prog (bodyOf Try.f31) 21 8 [⟨true, 0, []⟩, ⟨true, 0, [⟨false, 0, 0, 1⟩]⟩, ⟨true, 0, []⟩, ⟨false, 2, []⟩, ⟨false, 0, []⟩] [.ops [1, 0] [4, 5, 6, 7, 8, 9, 10, 11, 12, 13, 14, 15, 16, 17, 18], .code [1, 1]] ⟨[(1, .pointer (some ⟨w.heap.size, 0, none⟩)), (2, .bool false), (6, .bool (decide ((a : Int) ≥ 0)))], [⟨w.heap.size, 23, true, [.int .i64 a, .int .i64 b]⟩], [], w.heap.size + 1⟩) = some ⟨[(decide ((a : Int) ≥ 0)) = true, (decide ((a : Int) ≥ 0)) = true, (decide ((a : Int) ≥ 0)) = true, (decide ((a : Int) ≥ 0)) = true], dupR [(w.heap.size, 0, 1)], [.ops [1, 0] [9, 10, 11, 12, 13, 14, 15, 16, 17, 18], .code [1, 1]], ⟨[(1, .pointer (some ⟨w.heap.size, 0, none⟩)), (2, .bool false), (11, .bool (decide ((a : Int) ≤ 16777215)))], [⟨w.heap.size, 23, true, [.int .i64 a, .int .i64 b]⟩], [], w.heap.size + 1⟩⟩ := by kernel_rfl
theorem tg8_s3 (a : Int) (b : Int) (w : World) : Res.prune [1, 2, 16] [] (exec Try.prog (bodyOf Try.f31) 21 8 [⟨true, 0, []⟩, ⟨true, 0, [⟨false, 0, 1, 1⟩]⟩, ⟨true, 0, []⟩, ⟨false, 2, []⟩, ⟨false, 0, []⟩] [.ops [1, 0] [9, 10, 11, 12, 13, 14, 15, 16, 17, 18], .code [1, 1]] ⟨[(1, .pointer (some ⟨w.heap.size, 0, none⟩)), (2, .bool false), (11, .bool (decide ((a : Int) ≤ 16777215)))], [⟨w.heap.size, 23, true, [.int .i64 a, .int .i64 b]⟩], [], w.heap.size + 1⟩) = some ⟨[(decide ((a : Int) ≤ 16777215)) = true, (decide ((a : Int) ≤ 16777215)) = true, (decide ((a : Int) ≤ 16777215)) = true, (decide ((a : Int) ≤ 16777215)) = true], dupR [(w.heap.size, 1, 1)], [.ops [1, 0] [14, 15, 16, 17, 18], .code [1, 1]], ⟨[(1, .pointer (some ⟨w.heap.size, 0, none⟩)), (2, .bool false), (16, .bool (decide ((b : Int) ≥ 0)))], [⟨w.heap.size, 23, true, [.int .i64 a, .int .i64 b]⟩], [], w.heap.size + 1⟩⟩ := by kernel_rfl
theorem tg8_s4 (a : Int) (b : Int) (w : World) : Res.prune [2] [] (exec Try.prog (bodyOf Try.f31) 21 9 [⟨true, 0, []⟩, ⟨true, 0, [⟨false, 0, 1, 1⟩]⟩, ⟨true, 0, []⟩, ⟨false, 2, []⟩, ⟨false, 0, []⟩] [.ops [1, 0] [14, 15, 16, 17, 18], .code [1, 1]] ⟨[(1, .pointer (some ⟨w.heap.size, 0, none⟩)), (2, .bool false), (16, .bool (decide ((b : Int) ≥ 0)))], [⟨w.heap.size, 23, true, [.int .i64 a, .int .i64 b]⟩], [], w.heap.size + 1⟩) = some ⟨[(decide ((b : Int) ≥ 0)) = true, (decide ((b : Int) ≥ 0)) = true, (decide ((b : Int) ≥ 0)) = true, (decide ((b : Int) ≥ 0)) = true], dupR [(w.heap.size, 1, 1)], [.code [1, 1]], ⟨[(2, .bool (decide ((b : Int) ≤ 16777215)))], [⟨w.heap.size, 23, true, [.int .i64 a, .int .i64 b]⟩], [], w.heap.size + 1⟩⟩ := by kernel_rfl
theorem tg8_r5 (a : Int) (b : Int) (w : World) : resL Try.prog [] [⟨w.heap.size, 23, true, [.int .i64 a, .int .i64 b]⟩] [(2, .bool (decide ((b : Int) ≤ 16777215)))] Try.f31.results.toList [] = some ([.bool (decide ((b : Int) ≤ 16777215))], dupR []) := by kernel_rfl
theorem tg8_s6 (a : Int) (b : Int) (w : World) : Res.prune [2] [] (exec Try.prog (bodyOf Try.f31) 21 9 [⟨false, 0, []⟩, ⟨false, 0, []⟩, ⟨false, 0, []⟩, ⟨false, 3, []⟩, ⟨false, 0, []⟩] [.ops [1, 0] [14, 15, 16, 17, 18], .code [1, 1]] ⟨[(1, .pointer (some ⟨w.heap.size, 0, none⟩)), (2, .bool false), (16, .bool (decide ((b : Int) ≥ 0)))], [⟨w.heap.size, 23, true, [.int .i64 a, .int .i64 b]⟩], [], w.heap.size + 1⟩) = some ⟨[(decide ((b : Int) ≥ 0)) = false, (decide ((b : Int) ≥ 0)) = false, (decide ((b : Int) ≥ 0)) = false, (decide ((b : Int) ≥ 0)) = false], dupR [], [.code [1, 1]], ⟨[(2, .bool false)], [⟨w.heap.size, 23, true, [.int .i64 a, .int .i64 b]⟩], [], w.heap.size + 1⟩⟩ := by kernel_rfl
theorem tg8_r7 (a : Int) (b : Int) (w : World) : resL Try.prog [] [⟨w.heap.size, 23, true, [.int .i64 a, .int .i64 b]⟩] [(2, .bool false)] Try.f31.results.toList [] = some ([.bool false], dupR []) := by kernel_rfl
theorem tg8_s8 (a : Int) (b : Int) (w : World) : Res.prune [2] [] (exec Try.prog (bodyOf Try.f31) 21 14 [⟨false, 0, []⟩, ⟨false, 0, []⟩, ⟨false, 0, []⟩, ⟨false, 3, []⟩, ⟨false, 0, []⟩, ⟨false, 0, []⟩, ⟨false, 0, []⟩, ⟨false, 0, []⟩, ⟨false, 3, []⟩, ⟨false, 0, []⟩] [.ops [1, 0] [9, 10, 11, 12, 13, 14, 15, 16, 17, 18], .code [1, 1]] ⟨[(1, .pointer (some ⟨w.heap.size, 0, none⟩)), (2, .bool false), (11, .bool (decide ((a : Int) ≤ 16777215)))], [⟨w.heap.size, 23, true, [.int .i64 a, .int .i64 b]⟩], [], w.heap.size + 1⟩) = some ⟨[(decide ((a : Int) ≤ 16777215)) = false, (decide ((a : Int) ≤ 16777215)) = false, (decide ((a : Int) ≤ 16777215)) = false, (decide ((a : Int) ≤ 16777215)) = false, false = false, false = false, false = false, false = false], dupR [], [.code [1, 1]], ⟨[(2, .bool false)], [⟨w.heap.size, 23, true, [.int .i64 a, .int .i64 b]⟩], [], w.heap.size + 1⟩⟩ := by kernel_rfl
theorem tg8_r9 (a : Int) (b : Int) (w : World) : resL Try.prog [] [⟨w.heap.size, 23, true, [.int .i64 a, .int .i64 b]⟩] [(2, .bool false)] Try.f31.results.toList [] = some ([.bool false], dupR []) := by kernel_rfl
theorem tg8_s10 (a : Int) (b : Int) (w : World) : Res.prune [2] [] (exec Try.prog (bodyOf Try.f31) 21 19 [⟨false, 0, []⟩, ⟨false, 0, []⟩, ⟨false, 0, []⟩, ⟨false, 3, []⟩, ⟨false, 0, []⟩, ⟨false, 0, []⟩, ⟨false, 0, []⟩, ⟨false, 0, []⟩, ⟨false, 3, []⟩, ⟨false, 0, []⟩, ⟨false, 0, []⟩, ⟨false, 0, []⟩, ⟨false, 0, []⟩, ⟨false, 3, []⟩, ⟨false, 0, []⟩] [.ops [1, 0] [4, 5, 6, 7, 8, 9, 10, 11, 12, 13, 14, 15, 16, 17, 18], .code [1, 1]] ⟨[(1, .pointer (some ⟨w.heap.size, 0, none⟩)), (2, .bool false), (6, .bool (decide ((a : Int) ≥ 0)))], [⟨w.heap.size, 23, true, [.int .i64 a, .int .i64 b]⟩], [], w.heap.size + 1⟩) = some ⟨[(decide ((a : Int) ≥ 0)) = false, (decide ((a : Int) ≥ 0)) = false, (decide ((a : Int) ≥ 0)) = false, (decide ((a : Int) ≥ 0)) = false, false = false, false = false, false = false, false = false, false = false, false = false, false = false, false = false], dupR [], [.code [1, 1]], ⟨[(2, .bool false)], [⟨w.heap.size, 23, true, [.int .i64 a, .int .i64 b]⟩], [], w.heap.size + 1⟩⟩ := by kernel_rfl
theorem tg8_r11 (a : Int) (b : Int) (w : World) : resL Try.prog [] [⟨w.heap.size, 23, true, [.int .i64 a, .int .i64 b]⟩] [(2, .bool false)] Try.f31.results.toList [] = some ([.bool false], dupR []) := by kernel_rfl
set_option maxRecDepth 100000 in
set_option maxHeartbeats 4000000 in
theorem tag8_any (a b : Int) (w : World) :
    Calls Try.prog 31 #[.agg #[.int .i64 a, .int .i64 b]] w (RetK (.bool (n24 a && n24 b)) w) := by
  refine calls_of_holds (S := (fun _ => False)) (l := [.agg #[.int .i64 a, .int .i64 b]]) (n := 21) Try.func31 (body_of (by kernel_rfl)) rfl (by simp) (MemOk.none w _) ?_
  refine holds_go _ _ (tg8_s1 a b w) trivial ?_
  rcases Bool.eq_false_or_eq_true (decide ((a : Int) ≥ 0)) with d1 | d1
  · skip
    refine holds_go _ _ (tg8_s2 a b w) ⟨d1, d1, d1, d1, trivial⟩ ?_
    rcases Bool.eq_false_or_eq_true (decide ((a : Int) ≤ 16777215)) with d2 | d2
    · skip
      refine holds_go _ _ (tg8_s3 a b w) ⟨d2, d2, d2, d2, trivial⟩ ?_
      rcases Bool.eq_false_or_eq_true (decide ((b : Int) ≥ 0)) with d3 | d3
      · skip
        refine holds_go _ _ (tg8_s4 a b w) ⟨d3, d3, d3, d3, trivial⟩ ?_
        refine holds_ret [] (by kernel_rfl) (tg8_r5 a b w) ?_
        intro wx hm
        refine ⟨ret_bool ?_, hm.kept⟩
        simp only [ge_iff_le] at d1 d2 d3
        simp [n24, d1, d2, d3]
      · skip
        refine holds_go _ _ (tg8_s6 a b w) ⟨d3, d3, d3, d3, trivial⟩ ?_
        refine holds_ret [] (by kernel_rfl) (tg8_r7 a b w) ?_
        intro wx hm
        refine ⟨ret_bool ?_, hm.kept⟩
        simp only [ge_iff_le] at d1 d2 d3
        simp [n24, d1, d2, d3]
    · skip
      refine holds_go _ _ (tg8_s8 a b w) ⟨d2, d2, d2, d2, rfl, rfl, rfl, rfl, trivial⟩ ?_
      refine holds_ret [] (by kernel_rfl) (tg8_r9 a b w) ?_
      intro wx hm
      refine ⟨ret_bool ?_, hm.kept⟩
      simp only [ge_iff_le] at d1 d2
      simp [n24, d1, d2]
  · skip
    refine holds_go _ _ (tg8_s10 a b w) ⟨d1, d1, d1, d1, rfl, rfl, rfl, rfl, rfl, rfl, rfl, rfl, trivial⟩ ?_
    refine holds_ret [] (by kernel_rfl) (tg8_r11 a b w) ?_
    intro wx hm
    refine ⟨ret_bool ?_, hm.kept⟩
    simp only [ge_iff_le] at d1
    simp [n24, d1]

theorem bool_eq_iff {a b : Bool} (h : a = true ↔ b = true) : a = b := by cases a <;> cases b <;> simp at h ⊢
theorem empty_text (s : ByteArray) : (s.toList == (⟨#[]⟩ : ByteArray).toList) = decide (s.size = 0) := by
  rw [empty_size, cond_false]
  by_cases h : s.size = 0
  · rw [h]
    rfl
  · rw [decide_eq_false h, beq_eq_false_iff_ne.2 (by omega)]
theorem recOk_iff (r : RecM) : RecOk r ↔ ((0 ≤ r.fence ∧ r.fence ≤ 16777215) ∧ (0 ≤ r.de ∧ r.de ≤ 16777215) ∧ (0 ≤ r.ds ∧ r.ds ≤ 16777215) ∧ (0 ≤ r.ie ∧ r.ie ≤ 16777215) ∧ (0 ≤ r.is ∧ r.is ≤ 16777215) ∧ (0 ≤ r.mask ∧ r.mask ≤ 63) ∧
    (r.used = true → r.block.size = 16) ∧ (r.used = false → r.block.size = 0 ∧ r.op = false ∧ r.de = 0 ∧ r.ds = 0) ∧ (r.op = true → r.staged.size = 16) ∧ (r.op = false → r.staged.size = 0 ∧ r.ie = 0 ∧ r.is = 0 ∧ r.mask = 0)) := by
  simp only [size_zero]
  exact ⟨fun h => ⟨h.fence, h.de, h.ds, h.ie, h.is, h.mask, h.block, h.none, h.staged, h.shut⟩, fun ⟨h1, h2, h3, h4, h5, h6, h7, h8, h9, h10⟩ => ⟨h1, h2, h3, h4, h5, h6, h7, h8, h9, h10⟩⟩
def rr_v1 (r : RecM) : List Value := [.bool r.used, .int .i64 r.fence, .int .i64 r.de, .int .i64 r.ds, .string r.block, .bool r.op, .int .i64 r.ie, .int .i64 r.is, .int .i64 r.mask, .string r.staged]
theorem rr_s1 (r : RecM) (w : World) : Res.prune [1, 2, 6] [] (exec Try.prog (bodyOf Try.f15) 97 12 [⟨false, 0, []⟩, ⟨false, 0, []⟩, ⟨false, 0, []⟩, ⟨false, 0, [⟨false, 0, 2, 2⟩]⟩] [.code []] ⟨[(0, .agg (List.toArray (rr_v1 r)))], [], [], w.heap.size⟩) = some ⟨[], dupR [(w.heap.size, 2, 2)], [.ops [1, 0] [2, 3], .code [1, 1]], ⟨[(1, .pointer (some ⟨w.heap.size, 0, none⟩)), (2, .bool false), (6, .agg #[.int .i64 r.de, .int .i64 r.ds])], [⟨w.heap.size, 25, true, (rr_v1 r)⟩], [], w.heap.size + 1⟩⟩ := by kernel_rfl
theorem rr_c2 (r : RecM) (w : World) : callAt Try.prog (opsOf (getCode (bodyOf Try.f15) [1, 0])) [(1, .pointer (some ⟨w.heap.size, 0, none⟩)), (2, .bool false), (6, .agg #[.int .i64 r.de, .int .i64 r.ds])] 2 = some (31, [.agg #[.int .i64 r.de, .int .i64 r.ds]], some 7, []) := by kernel_rfl
theorem rr_s3 (r : RecM) (w : World) (z2 : Nat) : Res.prune [1, 2, 3, 9] [] (exec Try.prog (bodyOf Try.f15) 97 9 [⟨false, 0, []⟩, ⟨false, 0, []⟩, ⟨false, 0, [⟨false, 0, 6, 2⟩]⟩] [.ops [1, 0] [3], .code [1, 1]] ⟨[(7, .bool (n24 r.de && n24 r.ds)), (1, .pointer (some ⟨w.heap.size, 0, none⟩)), (2, .bool false), (6, .agg #[.int .i64 r.de, .int .i64 r.ds])], [⟨w.heap.size, 25, true, (rr_v1 r)⟩], [], z2⟩) = some ⟨[], dupR [(w.heap.size, 6, 2)], [.ops [1, 1, 0] [2, 3], .code [1, 1, 1]], ⟨[(1, .pointer (some ⟨w.heap.size, 0, none⟩)), (2, .bool false), (3, .bool (n24 r.de && n24 r.ds)), (9, .agg #[.int .i64 r.ie, .int .i64 r.is])], [⟨w.heap.size, 25, true, (rr_v1 r)⟩], [], z2⟩⟩ := by kernel_rfl
theorem rr_c4 (r : RecM) (w : World) : callAt Try.prog (opsOf (getCode (bodyOf Try.f15) [1, 1, 0])) [(1, .pointer (some ⟨w.heap.size, 0, none⟩)), (2, .bool false), (3, .bool (n24 r.de && n24 r.ds)), (9, .agg #[.int .i64 r.ie, .int .i64 r.is])] 2 = some (31, [.agg #[.int .i64 r.ie, .int .i64 r.is]], some 10, []) := by kernel_rfl
theorem rr_s5 (r : RecM) (w : World) (z4 : Nat) : Res.prune [1, 2, 4, 13] [] (exec Try.prog (bodyOf Try.f15) 97 11 [⟨false, 0, []⟩, ⟨false, 0, []⟩, ⟨false, 0, []⟩, ⟨false, 0, []⟩] [.ops [1, 1, 0] [3], .code [1, 1, 1]] ⟨[(10, .bool (n24 r.ie && n24 r.is)), (1, .pointer (some ⟨w.heap.size, 0, none⟩)), (2, .bool false), (3, .bool (n24 r.de && n24 r.ds)), (9, .agg #[.int .i64 r.ie, .int .i64 r.is])], [⟨w.heap.size, 25, true, (rr_v1 r)⟩], [], z4⟩) = some ⟨[], dupR [], [.ops [1, 1, 1, 0, 0] [3, 4, 5, 6, 7, 8, 9, 10, 11, 12, 13, 14, 15, 16, 17, 18, 19, 20, 21, 22, 23, 24, 25], .code [1, 1, 1, 0, 1], .code [1, 1, 1, 1]], ⟨[(1, .pointer (some ⟨w.heap.size, 0, none⟩)), (2, .bool false), (4, .bool (n24 r.ie && n24 r.is)), (13, .bool (!(n24 r.de && n24 r.ds)))], [⟨w.heap.size, 25, true, (rr_v1 r)⟩], [], z4⟩⟩ := by kernel_rfl
theorem rr_s6 (r : RecM) (w : World) (z4 : Nat) : Res.prune [1, 2, 17] [] (exec Try.prog (bodyOf Try.f15) 97 7 [⟨false, 0, []⟩, ⟨false, 0, []⟩, ⟨false, 3, []⟩, ⟨false, 0, []⟩] [.ops [1, 1, 1, 0, 0] [3, 4, 5, 6, 7, 8, 9, 10, 11, 12, 13, 14, 15, 16, 17, 18, 19, 20, 21, 22, 23, 24, 25], .code [1, 1, 1, 0, 1], .code [1, 1, 1, 1]] ⟨[(1, .pointer (some ⟨w.heap.size, 0, none⟩)), (2, .bool false), (4, .bool (n24 r.ie && n24 r.is)), (13, .bool (!(n24 r.de && n24 r.ds)))], [⟨w.heap.size, 25, true, (rr_v1 r)⟩], [], z4⟩) = some ⟨[(!(n24 r.de && n24 r.ds)) = false, (!(n24 r.de && n24 r.ds)) = false, (!(n24 r.de && n24 r.ds)) = false], dupR [], [.ops [1, 1, 1, 0, 0] [7, 8, 9, 10, 11, 12, 13, 14, 15, 16, 17, 18, 19, 20, 21, 22, 23, 24, 25], .code [1, 1, 1, 0, 1], .code [1, 1, 1, 1]], ⟨[(1, .pointer (some ⟨w.heap.size, 0, none⟩)), (2, .bool false), (17, .bool (!(n24 r.ie && n24 r.is)))], [⟨w.heap.size, 25, true, (rr_v1 r)⟩], [], z4⟩⟩ := by kernel_rfl
theorem rr_s7 (r : RecM) (w : World) (z4 : Nat) : Res.prune [1, 2, 22] [] (exec Try.prog (bodyOf Try.f15) 97 8 [⟨false, 0, []⟩, ⟨false, 0, [⟨false, 0, 1, 1⟩]⟩, ⟨false, 0, []⟩, ⟨false, 3, []⟩, ⟨false, 0, []⟩] [.ops [1, 1, 1, 0, 0] [7, 8, 9, 10, 11, 12, 13, 14, 15, 16, 17, 18, 19, 20, 21, 22, 23, 24, 25], .code [1, 1, 1, 0, 1], .code [1, 1, 1, 1]] ⟨[(1, .pointer (some ⟨w.heap.size, 0, none⟩)), (2, .bool false), (17, .bool (!(n24 r.ie && n24 r.is)))], [⟨w.heap.size, 25, true, (rr_v1 r)⟩], [], z4⟩) = some ⟨[(!(n24 r.ie && n24 r.is)) = false, (!(n24 r.ie && n24 r.is)) = false, (!(n24 r.ie && n24 r.is)) = false, (!(n24 r.ie && n24 r.is)) = false], dupR [(w.heap.size, 1, 1)], [.ops [1, 1, 1, 0, 0] [12, 13, 14, 15, 16, 17, 18, 19, 20, 21, 22, 23, 24, 25], .code [1, 1, 1, 0, 1], .code [1, 1, 1, 1]], ⟨[(1, .pointer (some ⟨w.heap.size, 0, none⟩)), (2, .bool false), (22, .bool (decide ((r.fence : Int) < 0)))], [⟨w.heap.size, 25, true, (rr_v1 r)⟩], [], z4⟩⟩ := by kernel_rfl
theorem rr_s8 (r : RecM) (w : World) (z4 : Nat) : Res.prune [1, 2] [] (exec Try.prog (bodyOf Try.f15) 97 23 [⟨true, 0, []⟩, ⟨true, 0, []⟩, ⟨true, 0, []⟩, ⟨false, 2, []⟩, ⟨false, 0, []⟩, ⟨true, 0, []⟩, ⟨true, 0, []⟩, ⟨true, 0, []⟩, ⟨false, 2, []⟩, ⟨false, 0, []⟩, ⟨true, 0, []⟩, ⟨true, 0, []⟩, ⟨true, 0, []⟩, ⟨false, 2, []⟩, ⟨true, 0, []⟩, ⟨false, 0, []⟩] [.ops [1, 1, 1, 0, 0] [12, 13, 14, 15, 16, 17, 18, 19, 20, 21, 22, 23, 24, 25], .code [1, 1, 1, 0, 1], .code [1, 1, 1, 1]] ⟨[(1, .pointer (some ⟨w.heap.size, 0, none⟩)), (2, .bool false), (22, .bool (decide ((r.fence : Int) < 0)))], [⟨w.heap.size, 25, true, (rr_v1 r)⟩], [], z4⟩) = some ⟨[(decide ((r.fence : Int) < 0)) = true, (decide ((r.fence : Int) < 0)) = true, (decide ((r.fence : Int) < 0)) = true, (decide ((r.fence : Int) < 0)) = true, true = true, true = true, true = true, true = true, true = true, true = true, true = true, true = true, true = true], dupR [], [.code [1, 1, 1, 0, 1, 0, 1], .code [1, 1, 1, 1]], ⟨[(1, .pointer (some ⟨w.heap.size, 0, none⟩)), (2, .bool false)], [⟨w.heap.size, 25, true, (rr_v1 r)⟩], [], z4⟩⟩ := by kernel_rfl
theorem rr_r9 (r : RecM) (w : World) : resL Try.prog [] [⟨w.heap.size, 25, true, (rr_v1 r)⟩] [(1, .pointer (some ⟨w.heap.size, 0, none⟩)), (2, .bool false)] Try.f15.results.toList [] = some ([.bool false], dupR []) := by kernel_rfl
theorem rr_s10 (r : RecM) (w : World) (z4 : Nat) : Res.prune [1, 2, 27] [] (exec Try.prog (bodyOf Try.f15) 97 8 [⟨false, 0, []⟩, ⟨false, 0, [⟨false, 0, 1, 1⟩]⟩, ⟨false, 0, []⟩, ⟨false, 3, []⟩, ⟨false, 0, []⟩] [.ops [1, 1, 1, 0, 0] [12, 13, 14, 15, 16, 17, 18, 19, 20, 21, 22, 23, 24, 25], .code [1, 1, 1, 0, 1], .code [1, 1, 1, 1]] ⟨[(1, .pointer (some ⟨w.heap.size, 0, none⟩)), (2, .bool false), (22, .bool (decide ((r.fence : Int) < 0)))], [⟨w.heap.size, 25, true, (rr_v1 r)⟩], [], z4⟩) = some ⟨[(decide ((r.fence : Int) < 0)) = false, (decide ((r.fence : Int) < 0)) = false, (decide ((r.fence : Int) < 0)) = false, (decide ((r.fence : Int) < 0)) = false], dupR [(w.heap.size, 1, 1)], [.ops [1, 1, 1, 0, 0] [17, 18, 19, 20, 21, 22, 23, 24, 25], .code [1, 1, 1, 0, 1], .code [1, 1, 1, 1]], ⟨[(1, .pointer (some ⟨w.heap.size, 0, none⟩)), (2, .bool false), (27, .bool (decide ((r.fence : Int) > 16777215)))], [⟨w.heap.size, 25, true, (rr_v1 r)⟩], [], z4⟩⟩ := by kernel_rfl
theorem rr_s11 (r : RecM) (w : World) (z4 : Nat) : Res.prune [1, 2] [] (exec Try.prog (bodyOf Try.f15) 97 18 [⟨true, 0, []⟩, ⟨true, 0, []⟩, ⟨true, 0, []⟩, ⟨false, 2, []⟩, ⟨false, 0, []⟩, ⟨true, 0, []⟩, ⟨true, 0, []⟩, ⟨true, 0, []⟩, ⟨false, 2, []⟩, ⟨true, 0, []⟩, ⟨false, 0, []⟩] [.ops [1, 1, 1, 0, 0] [17, 18, 19, 20, 21, 22, 23, 24, 25], .code [1, 1, 1, 0, 1], .code [1, 1, 1, 1]] ⟨[(1, .pointer (some ⟨w.heap.size, 0, none⟩)), (2, .bool false), (27, .bool (decide ((r.fence : Int) > 16777215)))], [⟨w.heap.size, 25, true, (rr_v1 r)⟩], [], z4⟩) = some ⟨[(decide ((r.fence : Int) > 16777215)) = true, (decide ((r.fence : Int) > 16777215)) = true, (decide ((r.fence : Int) > 16777215)) = true, (decide ((r.fence : Int) > 16777215)) = true, true = true, true = true, true = true, true = true, true = true], dupR [], [.code [1, 1, 1, 0, 1, 0, 1], .code [1, 1, 1, 1]], ⟨[(1, .pointer (some ⟨w.heap.size, 0, none⟩)), (2, .bool false)], [⟨w.heap.size, 25, true, (rr_v1 r)⟩], [], z4⟩⟩ := by kernel_rfl
theorem rr_r12 (r : RecM) (w : World) : resL Try.prog [] [⟨w.heap.size, 25, true, (rr_v1 r)⟩] [(1, .pointer (some ⟨w.heap.size, 0, none⟩)), (2, .bool false)] Try.f15.results.toList [] = some ([.bool false], dupR []) := by kernel_rfl
theorem rr_s13 (r : RecM) (w : World) (z4 : Nat) : Res.prune [1, 2, 32] [] (exec Try.prog (bodyOf Try.f15) 97 8 [⟨false, 0, []⟩, ⟨false, 0, [⟨false, 0, 8, 1⟩]⟩, ⟨false, 0, []⟩, ⟨false, 3, []⟩, ⟨false, 0, []⟩] [.ops [1, 1, 1, 0, 0] [17, 18, 19, 20, 21, 22, 23, 24, 25], .code [1, 1, 1, 0, 1], .code [1, 1, 1, 1]] ⟨[(1, .pointer (some ⟨w.heap.size, 0, none⟩)), (2, .bool false), (27, .bool (decide ((r.fence : Int) > 16777215)))], [⟨w.heap.size, 25, true, (rr_v1 r)⟩], [], z4⟩) = some ⟨[(decide ((r.fence : Int) > 16777215)) = false, (decide ((r.fence : Int) > 16777215)) = false, (decide ((r.fence : Int) > 16777215)) = false, (decide ((r.fence : Int) > 16777215)) = false], dupR [(w.heap.size, 8, 1)], [.ops [1, 1, 1, 0, 0] [22, 23, 24, 25], .code [1, 1, 1, 0, 1], .code [1, 1, 1, 1]], ⟨[(1, .pointer (some ⟨w.heap.size, 0, none⟩)), (2, .bool false), (32, .bool (decide ((r.mask : Int) < 0)))], [⟨w.heap.size, 25, true, (rr_v1 r)⟩], [], z4⟩⟩ := by kernel_rfl
theorem rr_s14 (r : RecM) (w : World) (z4 : Nat) : Res.prune [1, 2] [] (exec Try.prog (bodyOf Try.f15) 97 13 [⟨true, 0, []⟩, ⟨true, 0, []⟩, ⟨true, 0, []⟩, ⟨false, 2, []⟩, ⟨true, 0, []⟩, ⟨false, 0, []⟩] [.ops [1, 1, 1, 0, 0] [22, 23, 24, 25], .code [1, 1, 1, 0, 1], .code [1, 1, 1, 1]] ⟨[(1, .pointer (some ⟨w.heap.size, 0, none⟩)), (2, .bool false), (32, .bool (decide ((r.mask : Int) < 0)))], [⟨w.heap.size, 25, true, (rr_v1 r)⟩], [], z4⟩) = some ⟨[(decide ((r.mask : Int) < 0)) = true, (decide ((r.mask : Int) < 0)) = true, (decide ((r.mask : Int) < 0)) = true, (decide ((r.mask : Int) < 0)) = true, true = true], dupR [], [.code [1, 1, 1, 0, 1, 0, 1], .code [1, 1, 1, 1]], ⟨[(1, .pointer (some ⟨w.heap.size, 0, none⟩)), (2, .bool false)], [⟨w.heap.size, 25, true, (rr_v1 r)⟩], [], z4⟩⟩ := by kernel_rfl
theorem rr_r15 (r : RecM) (w : World) : resL Try.prog [] [⟨w.heap.size, 25, true, (rr_v1 r)⟩] [(1, .pointer (some ⟨w.heap.size, 0, none⟩)), (2, .bool false)] Try.f15.results.toList [] = some ([.bool false], dupR []) := by kernel_rfl
theorem rr_s16 (r : RecM) (w : World) (z4 : Nat) : Res.prune [1, 2, 36] [] (exec Try.prog (bodyOf Try.f15) 97 8 [⟨false, 0, []⟩, ⟨false, 0, [⟨false, 0, 8, 1⟩]⟩, ⟨false, 0, []⟩, ⟨false, 3, []⟩] [.ops [1, 1, 1, 0, 0] [22, 23, 24, 25], .code [1, 1, 1, 0, 1], .code [1, 1, 1, 1]] ⟨[(1, .pointer (some ⟨w.heap.size, 0, none⟩)), (2, .bool false), (32, .bool (decide ((r.mask : Int) < 0)))], [⟨w.heap.size, 25, true, (rr_v1 r)⟩], [], z4⟩) = some ⟨[(decide ((r.mask : Int) < 0)) = false, (decide ((r.mask : Int) < 0)) = false, (decide ((r.mask : Int) < 0)) = false, (decide ((r.mask : Int) < 0)) = false], dupR [(w.heap.size, 8, 1)], [.code [1, 1, 1, 0, 1], .code [1, 1, 1, 1]], ⟨[(1, .pointer (some ⟨w.heap.size, 0, none⟩)), (2, .bool false), (36, .bool (decide ((r.mask : Int) > 63)))], [⟨w.heap.size, 25, true, (rr_v1 r)⟩], [], z4⟩⟩ := by kernel_rfl
theorem rr_s17 (r : RecM) (w : World) (z4 : Nat) : Res.prune [1, 2] [] (exec Try.prog (bodyOf Try.f15) 97 8 [⟨true, 0, []⟩, ⟨false, 0, []⟩] [.code [1, 1, 1, 0, 1], .code [1, 1, 1, 1]] ⟨[(1, .pointer (some ⟨w.heap.size, 0, none⟩)), (2, .bool false), (36, .bool (decide ((r.mask : Int) > 63)))], [⟨w.heap.size, 25, true, (rr_v1 r)⟩], [], z4⟩) = some ⟨[(decide ((r.mask : Int) > 63)) = true], dupR [], [.code [1, 1, 1, 0, 1, 0, 1], .code [1, 1, 1, 1]], ⟨[(1, .pointer (some ⟨w.heap.size, 0, none⟩)), (2, .bool false)], [⟨w.heap.size, 25, true, (rr_v1 r)⟩], [], z4⟩⟩ := by kernel_rfl
theorem rr_r18 (r : RecM) (w : World) : resL Try.prog [] [⟨w.heap.size, 25, true, (rr_v1 r)⟩] [(1, .pointer (some ⟨w.heap.size, 0, none⟩)), (2, .bool false)] Try.f15.results.toList [] = some ([.bool false], dupR []) := by kernel_rfl
theorem rr_s19 (r : RecM) (w : World) (z4 : Nat) : Res.prune [1, 2, 39] [] (exec Try.prog (bodyOf Try.f15) 97 11 [⟨false, 0, []⟩, ⟨false, 0, []⟩, ⟨false, 0, [⟨false, 0, 0, 1⟩]⟩, ⟨false, 0, []⟩] [.code [1, 1, 1, 0, 1], .code [1, 1, 1, 1]] ⟨[(1, .pointer (some ⟨w.heap.size, 0, none⟩)), (2, .bool false), (36, .bool (decide ((r.mask : Int) > 63)))], [⟨w.heap.size, 25, true, (rr_v1 r)⟩], [], z4⟩) = some ⟨[(decide ((r.mask : Int) > 63)) = false], dupR [(w.heap.size, 0, 1)], [.ops [1, 1, 1, 1, 0, 0] [3, 4, 5, 6, 7, 8, 9, 10, 11, 12, 13, 14, 15, 16, 17, 18, 19, 20, 21, 22, 23, 24, 25, 26, 27, 28, 29, 30, 31, 32, 33], .code [1, 1, 1, 1, 0, 1], .code [1, 1, 1, 1, 1]], ⟨[(1, .pointer (some ⟨w.heap.size, 0, none⟩)), (2, .bool false), (39, .bool r.used)], [⟨w.heap.size, 25, true, (rr_v1 r)⟩], [], z4⟩⟩ := by kernel_rfl
theorem rr_s20 (r : RecM) (w : World) (z4 : Nat) : Res.prune [1, 2, 45] [] (exec Try.prog (bodyOf Try.f15) 97 9 [⟨true, 0, []⟩, ⟨true, 0, [⟨false, 0, 4, 1⟩]⟩, ⟨true, 0, []⟩, ⟨true, 0, []⟩, ⟨false, 2, []⟩, ⟨false, 0, []⟩] [.ops [1, 1, 1, 1, 0, 0] [3, 4, 5, 6, 7, 8, 9, 10, 11, 12, 13, 14, 15, 16, 17, 18, 19, 20, 21, 22, 23, 24, 25, 26, 27, 28, 29, 30, 31, 32, 33], .code [1, 1, 1, 1, 0, 1], .code [1, 1, 1, 1, 1]] ⟨[(1, .pointer (some ⟨w.heap.size, 0, none⟩)), (2, .bool false), (39, .bool r.used)], [⟨w.heap.size, 25, true, (rr_v1 r)⟩], [], z4⟩) = some ⟨[r.used = true, r.used = true, r.used = true, r.used = true, r.used = true], dupR [(w.heap.size, 4, 1)], [.ops [1, 1, 1, 1, 0, 0] [9, 10, 11, 12, 13, 14, 15, 16, 17, 18, 19, 20, 21, 22, 23, 24, 25, 26, 27, 28, 29, 30, 31, 32, 33], .code [1, 1, 1, 1, 0, 1], .code [1, 1, 1, 1, 1]], ⟨[(1, .pointer (some ⟨w.heap.size, 0, none⟩)), (2, .bool false), (45, .bool ((r.block.size : Int) != 16))], [⟨w.heap.size, 25, true, (rr_v1 r)⟩], [], z4⟩⟩ := by kernel_rfl
theorem rr_s21 (r : RecM) (w : World) (z4 : Nat) : Res.prune [1, 2] [] (exec Try.prog (bodyOf Try.f15) 97 34 [⟨true, 0, []⟩, ⟨true, 0, []⟩, ⟨true, 0, []⟩, ⟨true, 0, []⟩, ⟨false, 0, []⟩, ⟨false, 0, []⟩, ⟨false, 0, []⟩, ⟨false, 0, []⟩, ⟨false, 0, []⟩, ⟨false, 0, []⟩, ⟨false, 0, []⟩, ⟨false, 0, []⟩, ⟨false, 0, []⟩, ⟨false, 0, []⟩, ⟨false, 0, []⟩, ⟨false, 0, []⟩, ⟨false, 0, []⟩, ⟨false, 0, []⟩, ⟨false, 0, []⟩, ⟨false, 0, []⟩, ⟨false, 0, []⟩, ⟨false, 0, []⟩, ⟨false, 0, []⟩, ⟨true, 0, []⟩, ⟨false, 2, []⟩, ⟨true, 0, []⟩, ⟨false, 0, []⟩] [.ops [1, 1, 1, 1, 0, 0] [9, 10, 11, 12, 13, 14, 15, 16, 17, 18, 19, 20, 21, 22, 23, 24, 25, 26, 27, 28, 29, 30, 31, 32, 33], .code [1, 1, 1, 1, 0, 1], .code [1, 1, 1, 1, 1]] ⟨[(1, .pointer (some ⟨w.heap.size, 0, none⟩)), (2, .bool false), (45, .bool ((r.block.size : Int) != 16))], [⟨w.heap.size, 25, true, (rr_v1 r)⟩], [], z4⟩) = some ⟨[((r.block.size : Int) != 16) = true, ((r.block.size : Int) != 16) = true, ((r.block.size : Int) != 16) = true, ((r.block.size : Int) != 16) = true, ((r.block.size : Int) != 16) = true, ((r.block.size : Int) != 16) = true, true = true], dupR [], [.code [1, 1, 1, 1, 0, 1, 0, 1], .code [1, 1, 1, 1, 1]], ⟨[(1, .pointer (some ⟨w.heap.size, 0, none⟩)), (2, .bool false)], [⟨w.heap.size, 25, true, (rr_v1 r)⟩], [], z4⟩⟩ := by kernel_rfl
theorem rr_r22 (r : RecM) (w : World) : resL Try.prog [] [⟨w.heap.size, 25, true, (rr_v1 r)⟩] [(1, .pointer (some ⟨w.heap.size, 0, none⟩)), (2, .bool false)] Try.f15.results.toList [] = some ([.bool false], dupR []) := by kernel_rfl
theorem rr_s23 (r : RecM) (w : World) (z4 : Nat) : Res.prune [1, 2, 72] [] (exec Try.prog (bodyOf Try.f15) 97 37 [⟨false, 0, []⟩, ⟨false, 0, [⟨false, 0, 0, 1⟩]⟩, ⟨false, 0, []⟩, ⟨false, 0, []⟩, ⟨false, 0, []⟩, ⟨false, 0, []⟩, ⟨false, 0, []⟩, ⟨false, 0, []⟩, ⟨false, 0, []⟩, ⟨false, 0, []⟩, ⟨false, 0, []⟩, ⟨false, 0, []⟩, ⟨false, 0, []⟩, ⟨false, 0, []⟩, ⟨false, 0, []⟩, ⟨false, 0, []⟩, ⟨false, 0, []⟩, ⟨false, 0, []⟩, ⟨false, 0, []⟩, ⟨false, 0, []⟩, ⟨false, 0, []⟩, ⟨false, 0, []⟩, ⟨false, 0, []⟩, ⟨false, 3, []⟩, ⟨false, 3, []⟩, ⟨false, 0, []⟩, ⟨false, 0, []⟩, ⟨false, 0, [⟨false, 0, 5, 1⟩]⟩] [.ops [1, 1, 1, 1, 0, 0] [9, 10, 11, 12, 13, 14, 15, 16, 17, 18, 19, 20, 21, 22, 23, 24, 25, 26, 27, 28, 29, 30, 31, 32, 33], .code [1, 1, 1, 1, 0, 1], .code [1, 1, 1, 1, 1]] ⟨[(1, .pointer (some ⟨w.heap.size, 0, none⟩)), (2, .bool false), (45, .bool ((r.block.size : Int) != 16))], [⟨w.heap.size, 25, true, (rr_v1 r)⟩], [], z4⟩) = some ⟨[((r.block.size : Int) != 16) = false, ((r.block.size : Int) != 16) = false, ((r.block.size : Int) != 16) = false, ((r.block.size : Int) != 16) = false, (!r.used) = false, (!r.used) = false, (!r.used) = false, (!r.used) = false, (!r.used) = false, (!r.used) = false, (!r.used) = false, (!r.used) = false, (!r.used) = false, ((r.block.size : Int) != 16) = false, (!r.used) = false, ((r.block.size : Int) != 16) = false, false = false], dupR [(w.heap.size, 0, 1), (w.heap.size, 5, 1)], [.code [1, 1, 1, 1, 1, 0, 1], .code [1, 1, 1, 1, 1, 1]], ⟨[(1, .pointer (some ⟨w.heap.size, 0, none⟩)), (2, .bool false), (72, .bool r.op)], [⟨w.heap.size, 25, true, (rr_v1 r)⟩], [], z4⟩⟩ := by kernel_rfl
theorem rr_s24 (r : RecM) (w : World) (z4 : Nat) : Res.prune [1, 2] [] (exec Try.prog (bodyOf Try.f15) 97 12 [⟨true, 0, []⟩, ⟨false, 0, []⟩, ⟨false, 0, [⟨false, 0, 9, 1⟩]⟩, ⟨false, 0, []⟩, ⟨false, 0, []⟩, ⟨false, 0, []⟩] [.code [1, 1, 1, 1, 1, 0, 1], .code [1, 1, 1, 1, 1, 1]] ⟨[(1, .pointer (some ⟨w.heap.size, 0, none⟩)), (2, .bool false), (72, .bool r.op)], [⟨w.heap.size, 25, true, (rr_v1 r)⟩], [], z4⟩) = some ⟨[r.op = true], dupR [(w.heap.size, 9, 1)], [.code [1, 1, 1, 1, 1, 0, 1, 0, 1], .code [1, 1, 1, 1, 1, 1]], ⟨[(1, .pointer (some ⟨w.heap.size, 0, none⟩)), (2, .bool ((r.staged.size : Int) == 16))], [⟨w.heap.size, 25, true, (rr_v1 r)⟩], [], z4⟩⟩ := by kernel_rfl
theorem rr_r25 (r : RecM) (w : World) : resL Try.prog [] [⟨w.heap.size, 25, true, (rr_v1 r)⟩] [(1, .pointer (some ⟨w.heap.size, 0, none⟩)), (2, .bool ((r.staged.size : Int) == 16))] Try.f15.results.toList [] = some ([.bool ((r.staged.size : Int) == 16)], dupR []) := by kernel_rfl
theorem rr_s26 (r : RecM) (w : World) (z4 : Nat) : Res.prune [1, 2, 80] [] (exec Try.prog (bodyOf Try.f15) 97 11 [⟨false, 0, []⟩, ⟨false, 0, []⟩, ⟨false, 0, [⟨false, 0, 9, 1⟩]⟩, ⟨false, 0, []⟩, ⟨false, 0, []⟩] [.code [1, 1, 1, 1, 1, 0, 1], .code [1, 1, 1, 1, 1, 1]] ⟨[(1, .pointer (some ⟨w.heap.size, 0, none⟩)), (2, .bool false), (72, .bool r.op)], [⟨w.heap.size, 25, true, (rr_v1 r)⟩], [], z4⟩) = some ⟨[r.op = false], dupR [(w.heap.size, 9, 1)], [.ops [1, 1, 1, 1, 1, 1, 0] [4, 5, 6, 7, 8, 9, 10, 11, 12, 13, 14, 15, 16, 17, 18, 19, 20], .code [1, 1, 1, 1, 1, 1, 1]], ⟨[(1, .pointer (some ⟨w.heap.size, 0, none⟩)), (2, .bool false), (80, .bool (ByteArray.toList r.staged == ByteArray.toList ⟨#[]⟩))], [⟨w.heap.size, 25, true, (rr_v1 r)⟩], [], z4⟩⟩ := by kernel_rfl
theorem rr_s27 (r : RecM) (w : World) (z4 : Nat) : Res.prune [1, 2, 86] [] (exec Try.prog (bodyOf Try.f15) 97 9 [⟨true, 0, []⟩, ⟨true, 0, []⟩, ⟨true, 0, [⟨false, 0, 6, 1⟩]⟩, ⟨true, 0, []⟩, ⟨false, 2, []⟩, ⟨false, 0, []⟩] [.ops [1, 1, 1, 1, 1, 1, 0] [4, 5, 6, 7, 8, 9, 10, 11, 12, 13, 14, 15, 16, 17, 18, 19, 20], .code [1, 1, 1, 1, 1, 1, 1]] ⟨[(1, .pointer (some ⟨w.heap.size, 0, none⟩)), (2, .bool false), (80, .bool (ByteArray.toList r.staged == ByteArray.toList ⟨#[]⟩))], [⟨w.heap.size, 25, true, (rr_v1 r)⟩], [], z4⟩) = some ⟨[(ByteArray.toList r.staged == ByteArray.toList ⟨#[]⟩) = true, (ByteArray.toList r.staged == ByteArray.toList ⟨#[]⟩) = true, (ByteArray.toList r.staged == ByteArray.toList ⟨#[]⟩) = true, (ByteArray.toList r.staged == ByteArray.toList ⟨#[]⟩) = true, (ByteArray.toList r.staged == ByteArray.toList ⟨#[]⟩) = true], dupR [(w.heap.size, 6, 1)], [.ops [1, 1, 1, 1, 1, 1, 0] [10, 11, 12, 13, 14, 15, 16, 17, 18, 19, 20], .code [1, 1, 1, 1, 1, 1, 1]], ⟨[(1, .pointer (some ⟨w.heap.size, 0, none⟩)), (2, .bool false), (86, .bool (r.ie == 0))], [⟨w.heap.size, 25, true, (rr_v1 r)⟩], [], z4⟩⟩ := by kernel_rfl
theorem rr_s28 (r : RecM) (w : World) (z4 : Nat) : Res.prune [1, 2, 92] [] (exec Try.prog (bodyOf Try.f15) 97 9 [⟨true, 0, []⟩, ⟨true, 0, []⟩, ⟨true, 0, [⟨false, 0, 7, 1⟩]⟩, ⟨true, 0, []⟩, ⟨false, 2, []⟩, ⟨false, 0, []⟩] [.ops [1, 1, 1, 1, 1, 1, 0] [10, 11, 12, 13, 14, 15, 16, 17, 18, 19, 20], .code [1, 1, 1, 1, 1, 1, 1]] ⟨[(1, .pointer (some ⟨w.heap.size, 0, none⟩)), (2, .bool false), (86, .bool (r.ie == 0))], [⟨w.heap.size, 25, true, (rr_v1 r)⟩], [], z4⟩) = some ⟨[(r.ie == 0) = true, (r.ie == 0) = true, (r.ie == 0) = true, (r.ie == 0) = true, (r.ie == 0) = true], dupR [(w.heap.size, 7, 1)], [.ops [1, 1, 1, 1, 1, 1, 0] [16, 17, 18, 19, 20], .code [1, 1, 1, 1, 1, 1, 1]], ⟨[(1, .pointer (some ⟨w.heap.size, 0, none⟩)), (2, .bool false), (92, .bool (r.is == 0))], [⟨w.heap.size, 25, true, (rr_v1 r)⟩], [], z4⟩⟩ := by kernel_rfl
theorem rr_s29 (r : RecM) (w : World) (z4 : Nat) : Res.prune [2] [] (exec Try.prog (bodyOf Try.f15) 97 9 [⟨true, 0, []⟩, ⟨true, 0, [⟨false, 0, 8, 1⟩]⟩, ⟨true, 0, []⟩, ⟨false, 2, []⟩, ⟨false, 0, []⟩] [.ops [1, 1, 1, 1, 1, 1, 0] [16, 17, 18, 19, 20], .code [1, 1, 1, 1, 1, 1, 1]] ⟨[(1, .pointer (some ⟨w.heap.size, 0, none⟩)), (2, .bool false), (92, .bool (r.is == 0))], [⟨w.heap.size, 25, true, (rr_v1 r)⟩], [], z4⟩) = some ⟨[(r.is == 0) = true, (r.is == 0) = true, (r.is == 0) = true, (r.is == 0) = true], dupR [(w.heap.size, 8, 1)], [.code [1, 1, 1, 1, 1, 1, 1]], ⟨[(2, .bool (r.mask == 0))], [⟨w.heap.size, 25, true, (rr_v1 r)⟩], [], z4⟩⟩ := by kernel_rfl
theorem rr_r30 (r : RecM) (w : World) : resL Try.prog [] [⟨w.heap.size, 25, true, (rr_v1 r)⟩] [(2, .bool (r.mask == 0))] Try.f15.results.toList [] = some ([.bool (r.mask == 0)], dupR []) := by kernel_rfl
theorem rr_s31 (r : RecM) (w : World) (z4 : Nat) : Res.prune [2] [] (exec Try.prog (bodyOf Try.f15) 97 9 [⟨false, 0, []⟩, ⟨false, 0, []⟩, ⟨false, 0, []⟩, ⟨false, 3, []⟩, ⟨false, 0, []⟩] [.ops [1, 1, 1, 1, 1, 1, 0] [16, 17, 18, 19, 20], .code [1, 1, 1, 1, 1, 1, 1]] ⟨[(1, .pointer (some ⟨w.heap.size, 0, none⟩)), (2, .bool false), (92, .bool (r.is == 0))], [⟨w.heap.size, 25, true, (rr_v1 r)⟩], [], z4⟩) = some ⟨[(r.is == 0) = false, (r.is == 0) = false, (r.is == 0) = false, (r.is == 0) = false], dupR [], [.code [1, 1, 1, 1, 1, 1, 1]], ⟨[(2, .bool false)], [⟨w.heap.size, 25, true, (rr_v1 r)⟩], [], z4⟩⟩ := by kernel_rfl
theorem rr_r32 (r : RecM) (w : World) : resL Try.prog [] [⟨w.heap.size, 25, true, (rr_v1 r)⟩] [(2, .bool false)] Try.f15.results.toList [] = some ([.bool false], dupR []) := by kernel_rfl
theorem rr_s33 (r : RecM) (w : World) (z4 : Nat) : Res.prune [2] [] (exec Try.prog (bodyOf Try.f15) 97 15 [⟨false, 0, []⟩, ⟨false, 0, []⟩, ⟨false, 0, []⟩, ⟨false, 0, []⟩, ⟨false, 3, []⟩, ⟨false, 0, []⟩, ⟨false, 0, []⟩, ⟨false, 0, []⟩, ⟨false, 0, []⟩, ⟨false, 3, []⟩, ⟨false, 0, []⟩] [.ops [1, 1, 1, 1, 1, 1, 0] [10, 11, 12, 13, 14, 15, 16, 17, 18, 19, 20], .code [1, 1, 1, 1, 1, 1, 1]] ⟨[(1, .pointer (some ⟨w.heap.size, 0, none⟩)), (2, .bool false), (86, .bool (r.ie == 0))], [⟨w.heap.size, 25, true, (rr_v1 r)⟩], [], z4⟩) = some ⟨[(r.ie == 0) = false, (r.ie == 0) = false, (r.ie == 0) = false, (r.ie == 0) = false, (r.ie == 0) = false, false = false, false = false, false = false, false = false], dupR [], [.code [1, 1, 1, 1, 1, 1, 1]], ⟨[(2, .bool false)], [⟨w.heap.size, 25, true, (rr_v1 r)⟩], [], z4⟩⟩ := by kernel_rfl
theorem rr_r34 (r : RecM) (w : World) : resL Try.prog [] [⟨w.heap.size, 25, true, (rr_v1 r)⟩] [(2, .bool false)] Try.f15.results.toList [] = some ([.bool false], dupR []) := by kernel_rfl
theorem rr_s35 (r : RecM) (w : World) (z4 : Nat) : Res.prune [2] [] (exec Try.prog (bodyOf Try.f15) 97 21 [⟨false, 0, []⟩, ⟨false, 0, []⟩, ⟨false, 0, []⟩, ⟨false, 0, []⟩, ⟨false, 3, []⟩, ⟨false, 0, []⟩, ⟨false, 0, []⟩, ⟨false, 0, []⟩, ⟨false, 0, []⟩, ⟨false, 0, []⟩, ⟨false, 3, []⟩, ⟨false, 0, []⟩, ⟨false, 0, []⟩, ⟨false, 0, []⟩, ⟨false, 0, []⟩, ⟨false, 3, []⟩, ⟨false, 0, []⟩] [.ops [1, 1, 1, 1, 1, 1, 0] [4, 5, 6, 7, 8, 9, 10, 11, 12, 13, 14, 15, 16, 17, 18, 19, 20], .code [1, 1, 1, 1, 1, 1, 1]] ⟨[(1, .pointer (some ⟨w.heap.size, 0, none⟩)), (2, .bool false), (80, .bool (ByteArray.toList r.staged == ByteArray.toList ⟨#[]⟩))], [⟨w.heap.size, 25, true, (rr_v1 r)⟩], [], z4⟩) = some ⟨[(ByteArray.toList r.staged == ByteArray.toList ⟨#[]⟩) = false, (ByteArray.toList r.staged == ByteArray.toList ⟨#[]⟩) = false, (ByteArray.toList r.staged == ByteArray.toList ⟨#[]⟩) = false, (ByteArray.toList r.staged == ByteArray.toList ⟨#[]⟩) = false, (ByteArray.toList r.staged == ByteArray.toList ⟨#[]⟩) = false, false = false, false = false, false = false, false = false, false = false, false = false, false = false, false = false, false = false], dupR [], [.code [1, 1, 1, 1, 1, 1, 1]], ⟨[(2, .bool false)], [⟨w.heap.size, 25, true, (rr_v1 r)⟩], [], z4⟩⟩ := by kernel_rfl
theorem rr_r36 (r : RecM) (w : World) : resL Try.prog [] [⟨w.heap.size, 25, true, (rr_v1 r)⟩] [(2, .bool false)] Try.f15.results.toList [] = some ([.bool false], dupR []) := by kernel_rfl
theorem rr_s37 (r : RecM) (w : World) (z4 : Nat) : Res.prune [1, 2, 45, 49, 53] [] (exec Try.prog (bodyOf Try.f15) 97 17 [⟨false, 0, []⟩, ⟨false, 0, []⟩, ⟨false, 0, []⟩, ⟨false, 0, []⟩, ⟨false, 3, []⟩, ⟨false, 0, []⟩, ⟨false, 0, []⟩, ⟨false, 0, [⟨false, 0, 0, 1⟩]⟩, ⟨false, 0, []⟩, ⟨false, 0, []⟩, ⟨true, 0, []⟩, ⟨true, 0, [⟨false, 0, 4, 1⟩]⟩, ⟨true, 0, []⟩, ⟨true, 0, []⟩] [.ops [1, 1, 1, 1, 0, 0] [3, 4, 5, 6, 7, 8, 9, 10, 11, 12, 13, 14, 15, 16, 17, 18, 19, 20, 21, 22, 23, 24, 25, 26, 27, 28, 29, 30, 31, 32, 33], .code [1, 1, 1, 1, 0, 1], .code [1, 1, 1, 1, 1]] ⟨[(1, .pointer (some ⟨w.heap.size, 0, none⟩)), (2, .bool false), (39, .bool r.used)], [⟨w.heap.size, 25, true, (rr_v1 r)⟩], [], z4⟩) = some ⟨[r.used = false, r.used = false, r.used = false, r.used = false, r.used = false, false = false, false = false, false = false, false = false, (!r.used) = true, (!r.used) = true, (!r.used) = true, (!r.used) = true], dupR [(w.heap.size, 0, 1), (w.heap.size, 4, 1)], [.ops [1, 1, 1, 1, 0, 0] [17, 18, 19, 20, 21, 22, 23, 24, 25, 26, 27, 28, 29, 30, 31, 32, 33], .code [1, 1, 1, 1, 0, 1], .code [1, 1, 1, 1, 1]], ⟨[(1, .pointer (some ⟨w.heap.size, 0, none⟩)), (2, .bool false), (45, .bool false), (49, .bool (!r.used)), (53, .bool (!(ByteArray.toList r.block == ByteArray.toList ⟨#[]⟩)))], [⟨w.heap.size, 25, true, (rr_v1 r)⟩], [], z4⟩⟩ := by kernel_rfl
theorem rr_s38 (r : RecM) (w : World) (z4 : Nat) : Res.prune [1, 2, 45, 49, 57] [] (exec Try.prog (bodyOf Try.f15) 97 7 [⟨false, 0, []⟩, ⟨false, 0, [⟨false, 0, 5, 1⟩]⟩, ⟨true, 3, []⟩, ⟨true, 0, []⟩] [.ops [1, 1, 1, 1, 0, 0] [17, 18, 19, 20, 21, 22, 23, 24, 25, 26, 27, 28, 29, 30, 31, 32, 33], .code [1, 1, 1, 1, 0, 1], .code [1, 1, 1, 1, 1]] ⟨[(1, .pointer (some ⟨w.heap.size, 0, none⟩)), (2, .bool false), (45, .bool false), (49, .bool (!r.used)), (53, .bool (!(ByteArray.toList r.block == ByteArray.toList ⟨#[]⟩)))], [⟨w.heap.size, 25, true, (rr_v1 r)⟩], [], z4⟩) = some ⟨[(!(ByteArray.toList r.block == ByteArray.toList ⟨#[]⟩)) = false, (!(ByteArray.toList r.block == ByteArray.toList ⟨#[]⟩)) = false, (!r.used) = true, (!(ByteArray.toList r.block == ByteArray.toList ⟨#[]⟩)) = false, (!r.used) = true], dupR [(w.heap.size, 5, 1)], [.ops [1, 1, 1, 1, 0, 0] [21, 22, 23, 24, 25, 26, 27, 28, 29, 30, 31, 32, 33], .code [1, 1, 1, 1, 0, 1], .code [1, 1, 1, 1, 1]], ⟨[(1, .pointer (some ⟨w.heap.size, 0, none⟩)), (2, .bool false), (45, .bool false), (49, .bool (!r.used)), (57, .bool r.op)], [⟨w.heap.size, 25, true, (rr_v1 r)⟩], [], z4⟩⟩ := by kernel_rfl
theorem rr_s39 (r : RecM) (w : World) (z4 : Nat) : Res.prune [1, 2] [] (exec Try.prog (bodyOf Try.f15) 97 22 [⟨true, 0, []⟩, ⟨true, 0, []⟩, ⟨true, 0, []⟩, ⟨true, 0, []⟩, ⟨true, 2, []⟩, ⟨true, 0, []⟩, ⟨true, 0, []⟩, ⟨true, 0, []⟩, ⟨true, 0, []⟩, ⟨true, 0, []⟩, ⟨true, 2, []⟩, ⟨false, 2, []⟩, ⟨false, 3, []⟩, ⟨true, 0, []⟩, ⟨false, 0, []⟩] [.ops [1, 1, 1, 1, 0, 0] [21, 22, 23, 24, 25, 26, 27, 28, 29, 30, 31, 32, 33], .code [1, 1, 1, 1, 0, 1], .code [1, 1, 1, 1, 1]] ⟨[(1, .pointer (some ⟨w.heap.size, 0, none⟩)), (2, .bool false), (45, .bool false), (49, .bool (!r.used)), (57, .bool r.op)], [⟨w.heap.size, 25, true, (rr_v1 r)⟩], [], z4⟩) = some ⟨[r.op = true, r.op = true, r.op = true, r.op = true, (!r.used) = true, r.op = true, (!r.used) = true, true = true, true = true, true = true, true = true, (!r.used) = true, true = true, false = false, (!r.used) = true, false = false, true = true], dupR [], [.code [1, 1, 1, 1, 0, 1, 0, 1], .code [1, 1, 1, 1, 1]], ⟨[(1, .pointer (some ⟨w.heap.size, 0, none⟩)), (2, .bool false)], [⟨w.heap.size, 25, true, (rr_v1 r)⟩], [], z4⟩⟩ := by kernel_rfl
theorem rr_r40 (r : RecM) (w : World) : resL Try.prog [] [⟨w.heap.size, 25, true, (rr_v1 r)⟩] [(1, .pointer (some ⟨w.heap.size, 0, none⟩)), (2, .bool false)] Try.f15.results.toList [] = some ([.bool false], dupR []) := by kernel_rfl
theorem rr_s41 (r : RecM) (w : World) (z4 : Nat) : Res.prune [1, 2, 45, 49, 63] [] (exec Try.prog (bodyOf Try.f15) 97 9 [⟨false, 0, []⟩, ⟨false, 0, []⟩, ⟨false, 0, [⟨false, 0, 2, 1⟩]⟩, ⟨false, 0, []⟩, ⟨true, 3, []⟩, ⟨true, 0, []⟩] [.ops [1, 1, 1, 1, 0, 0] [21, 22, 23, 24, 25, 26, 27, 28, 29, 30, 31, 32, 33], .code [1, 1, 1, 1, 0, 1], .code [1, 1, 1, 1, 1]] ⟨[(1, .pointer (some ⟨w.heap.size, 0, none⟩)), (2, .bool false), (45, .bool false), (49, .bool (!r.used)), (57, .bool r.op)], [⟨w.heap.size, 25, true, (rr_v1 r)⟩], [], z4⟩) = some ⟨[r.op = false, r.op = false, r.op = false, r.op = false, (!r.used) = true, r.op = false, (!r.used) = true], dupR [(w.heap.size, 2, 1)], [.ops [1, 1, 1, 1, 0, 0] [27, 28, 29, 30, 31, 32, 33], .code [1, 1, 1, 1, 0, 1], .code [1, 1, 1, 1, 1]], ⟨[(1, .pointer (some ⟨w.heap.size, 0, none⟩)), (2, .bool false), (45, .bool false), (49, .bool (!r.used)), (63, .bool (r.de != 0))], [⟨w.heap.size, 25, true, (rr_v1 r)⟩], [], z4⟩⟩ := by kernel_rfl
theorem rr_s42 (r : RecM) (w : World) (z4 : Nat) : Res.prune [1, 2] [] (exec Try.prog (bodyOf Try.f15) 97 16 [⟨true, 0, []⟩, ⟨true, 0, []⟩, ⟨true, 0, []⟩, ⟨true, 0, []⟩, ⟨true, 2, []⟩, ⟨false, 2, []⟩, ⟨false, 3, []⟩, ⟨true, 0, []⟩, ⟨false, 0, []⟩] [.ops [1, 1, 1, 1, 0, 0] [27, 28, 29, 30, 31, 32, 33], .code [1, 1, 1, 1, 0, 1], .code [1, 1, 1, 1, 1]] ⟨[(1, .pointer (some ⟨w.heap.size, 0, none⟩)), (2, .bool false), (45, .bool false), (49, .bool (!r.used)), (63, .bool (r.de != 0))], [⟨w.heap.size, 25, true, (rr_v1 r)⟩], [], z4⟩) = some ⟨[(r.de != 0) = true, (r.de != 0) = true, (r.de != 0) = true, (r.de != 0) = true, (!r.used) = true, (r.de != 0) = true, false = false, (!r.used) = true, false = false, true = true], dupR [], [.code [1, 1, 1, 1, 0, 1, 0, 1], .code [1, 1, 1, 1, 1]], ⟨[(1, .pointer (some ⟨w.heap.size, 0, none⟩)), (2, .bool false)], [⟨w.heap.size, 25, true, (rr_v1 r)⟩], [], z4⟩⟩ := by kernel_rfl
theorem rr_r43 (r : RecM) (w : World) : resL Try.prog [] [⟨w.heap.size, 25, true, (rr_v1 r)⟩] [(1, .pointer (some ⟨w.heap.size, 0, none⟩)), (2, .bool false)] Try.f15.results.toList [] = some ([.bool false], dupR []) := by kernel_rfl
theorem rr_s44 (r : RecM) (w : World) (z4 : Nat) : Res.prune [1, 2, 70] [] (exec Try.prog (bodyOf Try.f15) 97 11 [⟨false, 0, []⟩, ⟨false, 0, []⟩, ⟨false, 0, [⟨false, 0, 3, 1⟩]⟩, ⟨false, 0, []⟩, ⟨true, 3, []⟩, ⟨false, 2, []⟩, ⟨false, 3, []⟩] [.ops [1, 1, 1, 1, 0, 0] [27, 28, 29, 30, 31, 32, 33], .code [1, 1, 1, 1, 0, 1], .code [1, 1, 1, 1, 1]] ⟨[(1, .pointer (some ⟨w.heap.size, 0, none⟩)), (2, .bool false), (45, .bool false), (49, .bool (!r.used)), (63, .bool (r.de != 0))], [⟨w.heap.size, 25, true, (rr_v1 r)⟩], [], z4⟩) = some ⟨[(r.de != 0) = false, (r.de != 0) = false, (r.de != 0) = false, (r.de != 0) = false, (!r.used) = true, (r.de != 0) = false, false = false, (!r.used) = true, false = false], dupR [(w.heap.size, 3, 1)], [.code [1, 1, 1, 1, 0, 1], .code [1, 1, 1, 1, 1]], ⟨[(1, .pointer (some ⟨w.heap.size, 0, none⟩)), (2, .bool false), (70, .bool (r.ds != 0))], [⟨w.heap.size, 25, true, (rr_v1 r)⟩], [], z4⟩⟩ := by kernel_rfl
theorem rr_s45 (r : RecM) (w : World) (z4 : Nat) : Res.prune [1, 2] [] (exec Try.prog (bodyOf Try.f15) 97 8 [⟨true, 0, []⟩, ⟨false, 0, []⟩] [.code [1, 1, 1, 1, 0, 1], .code [1, 1, 1, 1, 1]] ⟨[(1, .pointer (some ⟨w.heap.size, 0, none⟩)), (2, .bool false), (70, .bool (r.ds != 0))], [⟨w.heap.size, 25, true, (rr_v1 r)⟩], [], z4⟩) = some ⟨[(r.ds != 0) = true], dupR [], [.code [1, 1, 1, 1, 0, 1, 0, 1], .code [1, 1, 1, 1, 1]], ⟨[(1, .pointer (some ⟨w.heap.size, 0, none⟩)), (2, .bool false)], [⟨w.heap.size, 25, true, (rr_v1 r)⟩], [], z4⟩⟩ := by kernel_rfl
theorem rr_r46 (r : RecM) (w : World) : resL Try.prog [] [⟨w.heap.size, 25, true, (rr_v1 r)⟩] [(1, .pointer (some ⟨w.heap.size, 0, none⟩)), (2, .bool false)] Try.f15.results.toList [] = some ([.bool false], dupR []) := by kernel_rfl
theorem rr_s47 (r : RecM) (w : World) (z4 : Nat) : Res.prune [1, 2, 80] [] (exec Try.prog (bodyOf Try.f15) 97 19 [⟨false, 0, []⟩, ⟨false, 0, []⟩, ⟨false, 0, [⟨false, 0, 5, 1⟩]⟩, ⟨false, 0, []⟩, ⟨false, 0, []⟩, ⟨false, 0, [⟨false, 0, 9, 1⟩]⟩, ⟨false, 0, []⟩, ⟨false, 0, []⟩] [.code [1, 1, 1, 1, 0, 1], .code [1, 1, 1, 1, 1]] ⟨[(1, .pointer (some ⟨w.heap.size, 0, none⟩)), (2, .bool false), (70, .bool (r.ds != 0))], [⟨w.heap.size, 25, true, (rr_v1 r)⟩], [], z4⟩) = some ⟨[(r.ds != 0) = false, r.op = false], dupR [(w.heap.size, 5, 1), (w.heap.size, 9, 1)], [.ops [1, 1, 1, 1, 1, 1, 0] [4, 5, 6, 7, 8, 9, 10, 11, 12, 13, 14, 15, 16, 17, 18, 19, 20], .code [1, 1, 1, 1, 1, 1, 1]], ⟨[(1, .pointer (some ⟨w.heap.size, 0, none⟩)), (2, .bool false), (80, .bool (ByteArray.toList r.staged == ByteArray.toList ⟨#[]⟩))], [⟨w.heap.size, 25, true, (rr_v1 r)⟩], [], z4⟩⟩ := by kernel_rfl
theorem rr_s48 (r : RecM) (w : World) (z4 : Nat) : Res.prune [1, 2, 86] [] (exec Try.prog (bodyOf Try.f15) 97 9 [⟨true, 0, []⟩, ⟨true, 0, []⟩, ⟨true, 0, [⟨false, 0, 6, 1⟩]⟩, ⟨true, 0, []⟩, ⟨false, 2, []⟩, ⟨false, 0, []⟩] [.ops [1, 1, 1, 1, 1, 1, 0] [4, 5, 6, 7, 8, 9, 10, 11, 12, 13, 14, 15, 16, 17, 18, 19, 20], .code [1, 1, 1, 1, 1, 1, 1]] ⟨[(1, .pointer (some ⟨w.heap.size, 0, none⟩)), (2, .bool false), (80, .bool (ByteArray.toList r.staged == ByteArray.toList ⟨#[]⟩))], [⟨w.heap.size, 25, true, (rr_v1 r)⟩], [], z4⟩) = some ⟨[(ByteArray.toList r.staged == ByteArray.toList ⟨#[]⟩) = true, (ByteArray.toList r.staged == ByteArray.toList ⟨#[]⟩) = true, (ByteArray.toList r.staged == ByteArray.toList ⟨#[]⟩) = true, (ByteArray.toList r.staged == ByteArray.toList ⟨#[]⟩) = true, (ByteArray.toList r.staged == ByteArray.toList ⟨#[]⟩) = true], dupR [(w.heap.size, 6, 1)], [.ops [1, 1, 1, 1, 1, 1, 0] [10, 11, 12, 13, 14, 15, 16, 17, 18, 19, 20], .code [1, 1, 1, 1, 1, 1, 1]], ⟨[(1, .pointer (some ⟨w.heap.size, 0, none⟩)), (2, .bool false), (86, .bool (r.ie == 0))], [⟨w.heap.size, 25, true, (rr_v1 r)⟩], [], z4⟩⟩ := by kernel_rfl
theorem rr_s49 (r : RecM) (w : World) (z4 : Nat) : Res.prune [1, 2, 92] [] (exec Try.prog (bodyOf Try.f15) 97 9 [⟨true, 0, []⟩, ⟨true, 0, []⟩, ⟨true, 0, [⟨false, 0, 7, 1⟩]⟩, ⟨true, 0, []⟩, ⟨false, 2, []⟩, ⟨false, 0, []⟩] [.ops [1, 1, 1, 1, 1, 1, 0] [10, 11, 12, 13, 14, 15, 16, 17, 18, 19, 20], .code [1, 1, 1, 1, 1, 1, 1]] ⟨[(1, .pointer (some ⟨w.heap.size, 0, none⟩)), (2, .bool false), (86, .bool (r.ie == 0))], [⟨w.heap.size, 25, true, (rr_v1 r)⟩], [], z4⟩) = some ⟨[(r.ie == 0) = true, (r.ie == 0) = true, (r.ie == 0) = true, (r.ie == 0) = true, (r.ie == 0) = true], dupR [(w.heap.size, 7, 1)], [.ops [1, 1, 1, 1, 1, 1, 0] [16, 17, 18, 19, 20], .code [1, 1, 1, 1, 1, 1, 1]], ⟨[(1, .pointer (some ⟨w.heap.size, 0, none⟩)), (2, .bool false), (92, .bool (r.is == 0))], [⟨w.heap.size, 25, true, (rr_v1 r)⟩], [], z4⟩⟩ := by kernel_rfl
theorem rr_s50 (r : RecM) (w : World) (z4 : Nat) : Res.prune [2] [] (exec Try.prog (bodyOf Try.f15) 97 9 [⟨true, 0, []⟩, ⟨true, 0, [⟨false, 0, 8, 1⟩]⟩, ⟨true, 0, []⟩, ⟨false, 2, []⟩, ⟨false, 0, []⟩] [.ops [1, 1, 1, 1, 1, 1, 0] [16, 17, 18, 19, 20], .code [1, 1, 1, 1, 1, 1, 1]] ⟨[(1, .pointer (some ⟨w.heap.size, 0, none⟩)), (2, .bool false), (92, .bool (r.is == 0))], [⟨w.heap.size, 25, true, (rr_v1 r)⟩], [], z4⟩) = some ⟨[(r.is == 0) = true, (r.is == 0) = true, (r.is == 0) = true, (r.is == 0) = true], dupR [(w.heap.size, 8, 1)], [.code [1, 1, 1, 1, 1, 1, 1]], ⟨[(2, .bool (r.mask == 0))], [⟨w.heap.size, 25, true, (rr_v1 r)⟩], [], z4⟩⟩ := by kernel_rfl
theorem rr_r51 (r : RecM) (w : World) : resL Try.prog [] [⟨w.heap.size, 25, true, (rr_v1 r)⟩] [(2, .bool (r.mask == 0))] Try.f15.results.toList [] = some ([.bool (r.mask == 0)], dupR []) := by kernel_rfl
theorem rr_s52 (r : RecM) (w : World) (z4 : Nat) : Res.prune [2] [] (exec Try.prog (bodyOf Try.f15) 97 9 [⟨false, 0, []⟩, ⟨false, 0, []⟩, ⟨false, 0, []⟩, ⟨false, 3, []⟩, ⟨false, 0, []⟩] [.ops [1, 1, 1, 1, 1, 1, 0] [16, 17, 18, 19, 20], .code [1, 1, 1, 1, 1, 1, 1]] ⟨[(1, .pointer (some ⟨w.heap.size, 0, none⟩)), (2, .bool false), (92, .bool (r.is == 0))], [⟨w.heap.size, 25, true, (rr_v1 r)⟩], [], z4⟩) = some ⟨[(r.is == 0) = false, (r.is == 0) = false, (r.is == 0) = false, (r.is == 0) = false], dupR [], [.code [1, 1, 1, 1, 1, 1, 1]], ⟨[(2, .bool false)], [⟨w.heap.size, 25, true, (rr_v1 r)⟩], [], z4⟩⟩ := by kernel_rfl
theorem rr_r53 (r : RecM) (w : World) : resL Try.prog [] [⟨w.heap.size, 25, true, (rr_v1 r)⟩] [(2, .bool false)] Try.f15.results.toList [] = some ([.bool false], dupR []) := by kernel_rfl
theorem rr_s54 (r : RecM) (w : World) (z4 : Nat) : Res.prune [2] [] (exec Try.prog (bodyOf Try.f15) 97 15 [⟨false, 0, []⟩, ⟨false, 0, []⟩, ⟨false, 0, []⟩, ⟨false, 0, []⟩, ⟨false, 3, []⟩, ⟨false, 0, []⟩, ⟨false, 0, []⟩, ⟨false, 0, []⟩, ⟨false, 0, []⟩, ⟨false, 3, []⟩, ⟨false, 0, []⟩] [.ops [1, 1, 1, 1, 1, 1, 0] [10, 11, 12, 13, 14, 15, 16, 17, 18, 19, 20], .code [1, 1, 1, 1, 1, 1, 1]] ⟨[(1, .pointer (some ⟨w.heap.size, 0, none⟩)), (2, .bool false), (86, .bool (r.ie == 0))], [⟨w.heap.size, 25, true, (rr_v1 r)⟩], [], z4⟩) = some ⟨[(r.ie == 0) = false, (r.ie == 0) = false, (r.ie == 0) = false, (r.ie == 0) = false, (r.ie == 0) = false, false = false, false = false, false = false, false = false], dupR [], [.code [1, 1, 1, 1, 1, 1, 1]], ⟨[(2, .bool false)], [⟨w.heap.size, 25, true, (rr_v1 r)⟩], [], z4⟩⟩ := by kernel_rfl
theorem rr_r55 (r : RecM) (w : World) : resL Try.prog [] [⟨w.heap.size, 25, true, (rr_v1 r)⟩] [(2, .bool false)] Try.f15.results.toList [] = some ([.bool false], dupR []) := by kernel_rfl
theorem rr_s56 (r : RecM) (w : World) (z4 : Nat) : Res.prune [2] [] (exec Try.prog (bodyOf Try.f15) 97 21 [⟨false, 0, []⟩, ⟨false, 0, []⟩, ⟨false, 0, []⟩, ⟨false, 0, []⟩, ⟨false, 3, []⟩, ⟨false, 0, []⟩, ⟨false, 0, []⟩, ⟨false, 0, []⟩, ⟨false, 0, []⟩, ⟨false, 0, []⟩, ⟨false, 3, []⟩, ⟨false, 0, []⟩, ⟨false, 0, []⟩, ⟨false, 0, []⟩, ⟨false, 0, []⟩, ⟨false, 3, []⟩, ⟨false, 0, []⟩] [.ops [1, 1, 1, 1, 1, 1, 0] [4, 5, 6, 7, 8, 9, 10, 11, 12, 13, 14, 15, 16, 17, 18, 19, 20], .code [1, 1, 1, 1, 1, 1, 1]] ⟨[(1, .pointer (some ⟨w.heap.size, 0, none⟩)), (2, .bool false), (80, .bool (ByteArray.toList r.staged == ByteArray.toList ⟨#[]⟩))], [⟨w.heap.size, 25, true, (rr_v1 r)⟩], [], z4⟩) = some ⟨[(ByteArray.toList r.staged == ByteArray.toList ⟨#[]⟩) = false, (ByteArray.toList r.staged == ByteArray.toList ⟨#[]⟩) = false, (ByteArray.toList r.staged == ByteArray.toList ⟨#[]⟩) = false, (ByteArray.toList r.staged == ByteArray.toList ⟨#[]⟩) = false, (ByteArray.toList r.staged == ByteArray.toList ⟨#[]⟩) = false, false = false, false = false, false = false, false = false, false = false, false = false, false = false, false = false, false = false], dupR [], [.code [1, 1, 1, 1, 1, 1, 1]], ⟨[(2, .bool false)], [⟨w.heap.size, 25, true, (rr_v1 r)⟩], [], z4⟩⟩ := by kernel_rfl
theorem rr_r57 (r : RecM) (w : World) : resL Try.prog [] [⟨w.heap.size, 25, true, (rr_v1 r)⟩] [(2, .bool false)] Try.f15.results.toList [] = some ([.bool false], dupR []) := by kernel_rfl
theorem rr_s58 (r : RecM) (w : World) (z4 : Nat) : Res.prune [1, 2] [] (exec Try.prog (bodyOf Try.f15) 97 26 [⟨true, 0, []⟩, ⟨true, 0, []⟩, ⟨true, 2, []⟩, ⟨true, 0, []⟩, ⟨true, 0, []⟩, ⟨true, 0, []⟩, ⟨true, 0, []⟩, ⟨true, 0, []⟩, ⟨true, 2, []⟩, ⟨true, 0, []⟩, ⟨true, 0, []⟩, ⟨true, 0, []⟩, ⟨true, 0, []⟩, ⟨true, 0, []⟩, ⟨true, 2, []⟩, ⟨false, 2, []⟩, ⟨false, 3, []⟩, ⟨true, 0, []⟩, ⟨false, 0, []⟩] [.ops [1, 1, 1, 1, 0, 0] [17, 18, 19, 20, 21, 22, 23, 24, 25, 26, 27, 28, 29, 30, 31, 32, 33], .code [1, 1, 1, 1, 0, 1], .code [1, 1, 1, 1, 1]] ⟨[(1, .pointer (some ⟨w.heap.size, 0, none⟩)), (2, .bool false), (45, .bool false), (49, .bool (!r.used)), (53, .bool (!(ByteArray.toList r.block == ByteArray.toList ⟨#[]⟩)))], [⟨w.heap.size, 25, true, (rr_v1 r)⟩], [], z4⟩) = some ⟨[(!(ByteArray.toList r.block == ByteArray.toList ⟨#[]⟩)) = true, (!(ByteArray.toList r.block == ByteArray.toList ⟨#[]⟩)) = true, (!r.used) = true, (!(ByteArray.toList r.block == ByteArray.toList ⟨#[]⟩)) = true, (!r.used) = true, true = true, true = true, true = true, true = true, (!r.used) = true, true = true, (!r.used) = true, true = true, true = true, true = true, true = true, (!r.used) = true, true = true, false = false, (!r.used) = true, false = false, true = true], dupR [], [.code [1, 1, 1, 1, 0, 1, 0, 1], .code [1, 1, 1, 1, 1]], ⟨[(1, .pointer (some ⟨w.heap.size, 0, none⟩)), (2, .bool false)], [⟨w.heap.size, 25, true, (rr_v1 r)⟩], [], z4⟩⟩ := by kernel_rfl
theorem rr_r59 (r : RecM) (w : World) : resL Try.prog [] [⟨w.heap.size, 25, true, (rr_v1 r)⟩] [(1, .pointer (some ⟨w.heap.size, 0, none⟩)), (2, .bool false)] Try.f15.results.toList [] = some ([.bool false], dupR []) := by kernel_rfl
theorem rr_s60 (r : RecM) (w : World) (z4 : Nat) : Res.prune [1, 2] [] (exec Try.prog (bodyOf Try.f15) 97 28 [⟨true, 0, []⟩, ⟨true, 0, []⟩, ⟨true, 0, []⟩, ⟨false, 2, []⟩, ⟨false, 0, []⟩, ⟨true, 0, []⟩, ⟨true, 0, []⟩, ⟨true, 0, []⟩, ⟨false, 2, []⟩, ⟨false, 0, []⟩, ⟨true, 0, []⟩, ⟨true, 0, []⟩, ⟨true, 0, []⟩, ⟨false, 2, []⟩, ⟨false, 0, []⟩, ⟨true, 0, []⟩, ⟨true, 0, []⟩, ⟨true, 0, []⟩, ⟨false, 2, []⟩, ⟨true, 0, []⟩, ⟨false, 0, []⟩] [.ops [1, 1, 1, 0, 0] [7, 8, 9, 10, 11, 12, 13, 14, 15, 16, 17, 18, 19, 20, 21, 22, 23, 24, 25], .code [1, 1, 1, 0, 1], .code [1, 1, 1, 1]] ⟨[(1, .pointer (some ⟨w.heap.size, 0, none⟩)), (2, .bool false), (17, .bool (!(n24 r.ie && n24 r.is)))], [⟨w.heap.size, 25, true, (rr_v1 r)⟩], [], z4⟩) = some ⟨[(!(n24 r.ie && n24 r.is)) = true, (!(n24 r.ie && n24 r.is)) = true, (!(n24 r.ie && n24 r.is)) = true, (!(n24 r.ie && n24 r.is)) = true, true = true, true = true, true = true, true = true, true = true, true = true, true = true, true = true, true = true, true = true, true = true, true = true, true = true], dupR [], [.code [1, 1, 1, 0, 1, 0, 1], .code [1, 1, 1, 1]], ⟨[(1, .pointer (some ⟨w.heap.size, 0, none⟩)), (2, .bool false)], [⟨w.heap.size, 25, true, (rr_v1 r)⟩], [], z4⟩⟩ := by kernel_rfl
theorem rr_r61 (r : RecM) (w : World) : resL Try.prog [] [⟨w.heap.size, 25, true, (rr_v1 r)⟩] [(1, .pointer (some ⟨w.heap.size, 0, none⟩)), (2, .bool false)] Try.f15.results.toList [] = some ([.bool false], dupR []) := by kernel_rfl
theorem rr_s62 (r : RecM) (w : World) (z4 : Nat) : Res.prune [1, 2] [] (exec Try.prog (bodyOf Try.f15) 97 32 [⟨true, 0, []⟩, ⟨true, 0, []⟩, ⟨false, 2, []⟩, ⟨false, 0, []⟩, ⟨true, 0, []⟩, ⟨true, 0, []⟩, ⟨true, 0, []⟩, ⟨false, 2, []⟩, ⟨false, 0, []⟩, ⟨true, 0, []⟩, ⟨true, 0, []⟩, ⟨true, 0, []⟩, ⟨false, 2, []⟩, ⟨false, 0, []⟩, ⟨true, 0, []⟩, ⟨true, 0, []⟩, ⟨true, 0, []⟩, ⟨false, 2, []⟩, ⟨false, 0, []⟩, ⟨true, 0, []⟩, ⟨true, 0, []⟩, ⟨true, 0, []⟩, ⟨false, 2, []⟩, ⟨true, 0, []⟩, ⟨false, 0, []⟩] [.ops [1, 1, 1, 0, 0] [3, 4, 5, 6, 7, 8, 9, 10, 11, 12, 13, 14, 15, 16, 17, 18, 19, 20, 21, 22, 23, 24, 25], .code [1, 1, 1, 0, 1], .code [1, 1, 1, 1]] ⟨[(1, .pointer (some ⟨w.heap.size, 0, none⟩)), (2, .bool false), (4, .bool (n24 r.ie && n24 r.is)), (13, .bool (!(n24 r.de && n24 r.ds)))], [⟨w.heap.size, 25, true, (rr_v1 r)⟩], [], z4⟩) = some ⟨[(!(n24 r.de && n24 r.ds)) = true, (!(n24 r.de && n24 r.ds)) = true, (!(n24 r.de && n24 r.ds)) = true, true = true, true = true, true = true, true = true, true = true, true = true, true = true, true = true, true = true, true = true, true = true, true = true, true = true, true = true, true = true, true = true, true = true], dupR [], [.code [1, 1, 1, 0, 1, 0, 1], .code [1, 1, 1, 1]], ⟨[(1, .pointer (some ⟨w.heap.size, 0, none⟩)), (2, .bool false)], [⟨w.heap.size, 25, true, (rr_v1 r)⟩], [], z4⟩⟩ := by kernel_rfl
theorem rr_r63 (r : RecM) (w : World) : resL Try.prog [] [⟨w.heap.size, 25, true, (rr_v1 r)⟩] [(1, .pointer (some ⟨w.heap.size, 0, none⟩)), (2, .bool false)] Try.f15.results.toList [] = some ([.bool false], dupR []) := by kernel_rfl
set_option maxRecDepth 100000 in
set_option maxHeartbeats 4000000 in
theorem refRight_any (r : RecM) (w : World) :
    Calls Try.prog 15 #[.agg #[.bool r.used, .int .i64 r.fence, .int .i64 r.de, .int .i64 r.ds, .string r.block, .bool r.op, .int .i64 r.ie, .int .i64 r.is, .int .i64 r.mask, .string r.staged]] w (RetK (.bool (okB r)) w) := by
  refine calls_of_holds (S := (fun _ => False)) (l := [.agg (List.toArray (rr_v1 r))]) (n := 97) Try.func15 (body_of (by kernel_rfl)) rfl (by simp) (MemOk.none w _) ?_
  refine holds_go _ _ (rr_s1 r w) trivial ?_
  refine holds_callP (.bool (n24 r.de && n24 r.ds)) (rr_c2 r w) trivial rfl (fun wx hm => tag8_any _ _ wx) fun z2 hz2 => ?_
  replace hz2 : w.heap.size + 1 ≤ z2 := hz2
  refine holds_go _ _ (rr_s3 r w z2) trivial ?_
  refine holds_callP (.bool (n24 r.ie && n24 r.is)) (rr_c4 r w) trivial rfl (fun wx hm => tag8_any _ _ wx) fun z4 hz4 => ?_
  replace hz4 : z2 ≤ z4 := hz4
  refine holds_go _ _ (rr_s5 r w z4) trivial ?_
  rcases Bool.eq_false_or_eq_true (n24 r.de && n24 r.ds) with d1 | d1
  · skip
    refine holds_go _ _ (rr_s6 r w z4) ⟨(by rw [d1]; rfl), (by rw [d1]; rfl), (by rw [d1]; rfl), trivial⟩ ?_
    rcases Bool.eq_false_or_eq_true (n24 r.ie && n24 r.is) with d2 | d2
    · skip
      refine holds_go _ _ (rr_s7 r w z4) ⟨(by rw [d2]; rfl), (by rw [d2]; rfl), (by rw [d2]; rfl), (by rw [d2]; rfl), trivial⟩ ?_
      rcases Bool.eq_false_or_eq_true (decide ((r.fence : Int) < 0)) with d3 | d3
      · skip
        refine holds_go _ _ (rr_s8 r w z4) ⟨d3, d3, d3, d3, rfl, rfl, rfl, rfl, rfl, rfl, rfl, rfl, rfl, trivial⟩ ?_
        refine holds_ret [] (by kernel_rfl) (rr_r9 r w) ?_
        intro wx hm
        refine ⟨ret_bool ?_, hm.kept⟩
        clear hm
        refine bool_eq_iff ?_
        rw [okB_iff, recOk_iff]
        simp_all [n24]
        try omega
      · skip
        refine holds_go _ _ (rr_s10 r w z4) ⟨d3, d3, d3, d3, trivial⟩ ?_
        rcases Bool.eq_false_or_eq_true (decide ((r.fence : Int) > 16777215)) with d4 | d4
        · skip
          refine holds_go _ _ (rr_s11 r w z4) ⟨d4, d4, d4, d4, rfl, rfl, rfl, rfl, rfl, trivial⟩ ?_
          refine holds_ret [] (by kernel_rfl) (rr_r12 r w) ?_
          intro wx hm
          refine ⟨ret_bool ?_, hm.kept⟩
          clear hm
          refine bool_eq_iff ?_
          rw [okB_iff, recOk_iff]
          simp_all [n24]
          try omega
        · skip
          refine holds_go _ _ (rr_s13 r w z4) ⟨d4, d4, d4, d4, trivial⟩ ?_
          rcases Bool.eq_false_or_eq_true (decide ((r.mask : Int) < 0)) with d5 | d5
          · skip
            refine holds_go _ _ (rr_s14 r w z4) ⟨d5, d5, d5, d5, rfl, trivial⟩ ?_
            refine holds_ret [] (by kernel_rfl) (rr_r15 r w) ?_
            intro wx hm
            refine ⟨ret_bool ?_, hm.kept⟩
            clear hm
            refine bool_eq_iff ?_
            rw [okB_iff, recOk_iff]
            simp_all [n24]
            try omega
          · skip
            refine holds_go _ _ (rr_s16 r w z4) ⟨d5, d5, d5, d5, trivial⟩ ?_
            rcases Bool.eq_false_or_eq_true (decide ((r.mask : Int) > 63)) with d6 | d6
            · skip
              refine holds_go _ _ (rr_s17 r w z4) ⟨d6, trivial⟩ ?_
              refine holds_ret [] (by kernel_rfl) (rr_r18 r w) ?_
              intro wx hm
              refine ⟨ret_bool ?_, hm.kept⟩
              clear hm
              refine bool_eq_iff ?_
              rw [okB_iff, recOk_iff]
              simp_all [n24]
              try omega
            · skip
              refine holds_go _ _ (rr_s19 r w z4) ⟨d6, trivial⟩ ?_
              rcases Bool.eq_false_or_eq_true (r.used) with d7 | d7
              · skip
                refine holds_go _ _ (rr_s20 r w z4) ⟨d7, d7, d7, d7, d7, trivial⟩ ?_
                rcases Bool.eq_false_or_eq_true ((r.block.size : Int) != 16) with d8 | d8
                · skip
                  refine holds_go _ _ (rr_s21 r w z4) ⟨d8, d8, d8, d8, d8, d8, rfl, trivial⟩ ?_
                  refine holds_ret [] (by kernel_rfl) (rr_r22 r w) ?_
                  intro wx hm
                  refine ⟨ret_bool ?_, hm.kept⟩
                  clear hm
                  refine bool_eq_iff ?_
                  rw [okB_iff, recOk_iff]
                  simp_all [n24]
                  try omega
                · skip
                  refine holds_go _ _ (rr_s23 r w z4) ⟨d8, d8, d8, d8, (by rw [d7]; rfl), (by rw [d7]; rfl), (by rw [d7]; rfl), (by rw [d7]; rfl), (by rw [d7]; rfl), (by rw [d7]; rfl), (by rw [d7]; rfl), (by rw [d7]; rfl), (by rw [d7]; rfl), d8, (by rw [d7]; rfl), d8, rfl, trivial⟩ ?_
                  rcases Bool.eq_false_or_eq_true (r.op) with d9 | d9
                  · skip
                    refine holds_go _ _ (rr_s24 r w z4) ⟨d9, trivial⟩ ?_
                    refine holds_ret [] (by kernel_rfl) (rr_r25 r w) ?_
                    intro wx hm
                    refine ⟨ret_bool ?_, hm.kept⟩
                    clear hm
                    refine bool_eq_iff ?_
                    rw [okB_iff, recOk_iff]
                    simp_all [n24]
                    try omega
                  · skip
                    refine holds_go _ _ (rr_s26 r w z4) ⟨d9, trivial⟩ ?_
                    rcases Bool.eq_false_or_eq_true (ByteArray.toList r.staged == ByteArray.toList ⟨#[]⟩) with d10 | d10
                    · skip
                      refine holds_go _ _ (rr_s27 r w z4) ⟨d10, d10, d10, d10, d10, trivial⟩ ?_
                      rcases Bool.eq_false_or_eq_true (r.ie == 0) with d11 | d11
                      · skip
                        refine holds_go _ _ (rr_s28 r w z4) ⟨d11, d11, d11, d11, d11, trivial⟩ ?_
                        rcases Bool.eq_false_or_eq_true (r.is == 0) with d12 | d12
                        · skip
                          refine holds_go _ _ (rr_s29 r w z4) ⟨d12, d12, d12, d12, trivial⟩ ?_
                          refine holds_ret [] (by kernel_rfl) (rr_r30 r w) ?_
                          intro wx hm
                          refine ⟨ret_bool ?_, hm.kept⟩
                          clear hm
                          refine bool_eq_iff ?_
                          rw [okB_iff, recOk_iff]
                          rw [empty_text] at d10
                          simp_all [n24]
                          try omega
                        · skip
                          refine holds_go _ _ (rr_s31 r w z4) ⟨d12, d12, d12, d12, trivial⟩ ?_
                          refine holds_ret [] (by kernel_rfl) (rr_r32 r w) ?_
                          intro wx hm
                          refine ⟨ret_bool ?_, hm.kept⟩
                          clear hm
                          refine bool_eq_iff ?_
                          rw [okB_iff, recOk_iff]
                          rw [empty_text] at d10
                          simp_all [n24]
                          try omega
                      · skip
                        refine holds_go _ _ (rr_s33 r w z4) ⟨d11, d11, d11, d11, d11, rfl, rfl, rfl, rfl, trivial⟩ ?_
                        refine holds_ret [] (by kernel_rfl) (rr_r34 r w) ?_
                        intro wx hm
                        refine ⟨ret_bool ?_, hm.kept⟩
                        clear hm
                        refine bool_eq_iff ?_
                        rw [okB_iff, recOk_iff]
                        rw [empty_text] at d10
                        simp_all [n24]
                        try omega
                    · skip
                      refine holds_go _ _ (rr_s35 r w z4) ⟨d10, d10, d10, d10, d10, rfl, rfl, rfl, rfl, rfl, rfl, rfl, rfl, rfl, trivial⟩ ?_
                      refine holds_ret [] (by kernel_rfl) (rr_r36 r w) ?_
                      intro wx hm
                      refine ⟨ret_bool ?_, hm.kept⟩
                      clear hm
                      refine bool_eq_iff ?_
                      rw [okB_iff, recOk_iff]
                      rw [empty_text] at d10
                      simp_all [n24]
                      try omega
              · skip
                refine holds_go _ _ (rr_s37 r w z4) ⟨d7, d7, d7, d7, d7, rfl, rfl, rfl, rfl, (by rw [d7]; rfl), (by rw [d7]; rfl), (by rw [d7]; rfl), (by rw [d7]; rfl), trivial⟩ ?_
                rcases Bool.eq_false_or_eq_true (ByteArray.toList r.block == ByteArray.toList ⟨#[]⟩) with d13 | d13
                · skip
                  refine holds_go _ _ (rr_s38 r w z4) ⟨(by rw [d13]; rfl), (by rw [d13]; rfl), (by rw [d7]; rfl), (by rw [d13]; rfl), (by rw [d7]; rfl), trivial⟩ ?_
                  rcases Bool.eq_false_or_eq_true (r.op) with d14 | d14
                  · skip
                    refine holds_go _ _ (rr_s39 r w z4) ⟨d14, d14, d14, d14, (by rw [d7]; rfl), d14, (by rw [d7]; rfl), rfl, rfl, rfl, rfl, (by rw [d7]; rfl), rfl, rfl, (by rw [d7]; rfl), rfl, rfl, trivial⟩ ?_
                    refine holds_ret [] (by kernel_rfl) (rr_r40 r w) ?_
                    intro wx hm
                    refine ⟨ret_bool ?_, hm.kept⟩
                    clear hm
                    refine bool_eq_iff ?_
                    rw [okB_iff, recOk_iff]
                    rw [empty_text] at d13
                    simp_all [n24]
                    try omega
                  · skip
                    refine holds_go _ _ (rr_s41 r w z4) ⟨d14, d14, d14, d14, (by rw [d7]; rfl), d14, (by rw [d7]; rfl), trivial⟩ ?_
                    rcases Bool.eq_false_or_eq_true (r.de != 0) with d15 | d15
                    · skip
                      refine holds_go _ _ (rr_s42 r w z4) ⟨d15, d15, d15, d15, (by rw [d7]; rfl), d15, rfl, (by rw [d7]; rfl), rfl, rfl, trivial⟩ ?_
                      refine holds_ret [] (by kernel_rfl) (rr_r43 r w) ?_
                      intro wx hm
                      refine ⟨ret_bool ?_, hm.kept⟩
                      clear hm
                      refine bool_eq_iff ?_
                      rw [okB_iff, recOk_iff]
                      rw [empty_text] at d13
                      simp_all [n24]
                      try omega
                    · skip
                      refine holds_go _ _ (rr_s44 r w z4) ⟨d15, d15, d15, d15, (by rw [d7]; rfl), d15, rfl, (by rw [d7]; rfl), rfl, trivial⟩ ?_
                      rcases Bool.eq_false_or_eq_true (r.ds != 0) with d16 | d16
                      · skip
                        refine holds_go _ _ (rr_s45 r w z4) ⟨d16, trivial⟩ ?_
                        refine holds_ret [] (by kernel_rfl) (rr_r46 r w) ?_
                        intro wx hm
                        refine ⟨ret_bool ?_, hm.kept⟩
                        clear hm
                        refine bool_eq_iff ?_
                        rw [okB_iff, recOk_iff]
                        rw [empty_text] at d13
                        simp_all [n24]
                        try omega
                      · skip
                        refine holds_go _ _ (rr_s47 r w z4) ⟨d16, d14, trivial⟩ ?_
                        rcases Bool.eq_false_or_eq_true (ByteArray.toList r.staged == ByteArray.toList ⟨#[]⟩) with d17 | d17
                        · skip
                          refine holds_go _ _ (rr_s48 r w z4) ⟨d17, d17, d17, d17, d17, trivial⟩ ?_
                          rcases Bool.eq_false_or_eq_true (r.ie == 0) with d18 | d18
                          · skip
                            refine holds_go _ _ (rr_s49 r w z4) ⟨d18, d18, d18, d18, d18, trivial⟩ ?_
                            rcases Bool.eq_false_or_eq_true (r.is == 0) with d19 | d19
                            · skip
                              refine holds_go _ _ (rr_s50 r w z4) ⟨d19, d19, d19, d19, trivial⟩ ?_
                              refine holds_ret [] (by kernel_rfl) (rr_r51 r w) ?_
                              intro wx hm
                              refine ⟨ret_bool ?_, hm.kept⟩
                              clear hm
                              refine bool_eq_iff ?_
                              rw [okB_iff, recOk_iff]
                              rw [empty_text] at d13
                              rw [empty_text] at d17
                              simp_all [n24]
                              try omega
                            · skip
                              refine holds_go _ _ (rr_s52 r w z4) ⟨d19, d19, d19, d19, trivial⟩ ?_
                              refine holds_ret [] (by kernel_rfl) (rr_r53 r w) ?_
                              intro wx hm
                              refine ⟨ret_bool ?_, hm.kept⟩
                              clear hm
                              refine bool_eq_iff ?_
                              rw [okB_iff, recOk_iff]
                              rw [empty_text] at d13
                              rw [empty_text] at d17
                              simp_all [n24]
                              try omega
                          · skip
                            refine holds_go _ _ (rr_s54 r w z4) ⟨d18, d18, d18, d18, d18, rfl, rfl, rfl, rfl, trivial⟩ ?_
                            refine holds_ret [] (by kernel_rfl) (rr_r55 r w) ?_
                            intro wx hm
                            refine ⟨ret_bool ?_, hm.kept⟩
                            clear hm
                            refine bool_eq_iff ?_
                            rw [okB_iff, recOk_iff]
                            rw [empty_text] at d13
                            rw [empty_text] at d17
                            simp_all [n24]
                            try omega
                        · skip
                          refine holds_go _ _ (rr_s56 r w z4) ⟨d17, d17, d17, d17, d17, rfl, rfl, rfl, rfl, rfl, rfl, rfl, rfl, rfl, trivial⟩ ?_
                          refine holds_ret [] (by kernel_rfl) (rr_r57 r w) ?_
                          intro wx hm
                          refine ⟨ret_bool ?_, hm.kept⟩
                          clear hm
                          refine bool_eq_iff ?_
                          rw [okB_iff, recOk_iff]
                          rw [empty_text] at d13
                          rw [empty_text] at d17
                          simp_all [n24]
                          try omega
                · skip
                  refine holds_go _ _ (rr_s58 r w z4) ⟨(by rw [d13]; rfl), (by rw [d13]; rfl), (by rw [d7]; rfl), (by rw [d13]; rfl), (by rw [d7]; rfl), rfl, rfl, rfl, rfl, (by rw [d7]; rfl), rfl, (by rw [d7]; rfl), rfl, rfl, rfl, rfl, (by rw [d7]; rfl), rfl, rfl, (by rw [d7]; rfl), rfl, rfl, trivial⟩ ?_
                  refine holds_ret [] (by kernel_rfl) (rr_r59 r w) ?_
                  intro wx hm
                  refine ⟨ret_bool ?_, hm.kept⟩
                  clear hm
                  refine bool_eq_iff ?_
                  rw [okB_iff, recOk_iff]
                  rw [empty_text] at d13
                  simp_all [n24]
                  try omega
    · skip
      refine holds_go _ _ (rr_s60 r w z4) ⟨(by rw [d2]; rfl), (by rw [d2]; rfl), (by rw [d2]; rfl), (by rw [d2]; rfl), rfl, rfl, rfl, rfl, rfl, rfl, rfl, rfl, rfl, rfl, rfl, rfl, rfl, trivial⟩ ?_
      refine holds_ret [] (by kernel_rfl) (rr_r61 r w) ?_
      intro wx hm
      refine ⟨ret_bool ?_, hm.kept⟩
      clear hm
      refine bool_eq_iff ?_
      rw [okB_iff, recOk_iff]
      simp_all [n24]
      try omega
  · skip
    refine holds_go _ _ (rr_s62 r w z4) ⟨(by rw [d1]; rfl), (by rw [d1]; rfl), (by rw [d1]; rfl), rfl, rfl, rfl, rfl, rfl, rfl, rfl, rfl, rfl, rfl, rfl, rfl, rfl, rfl, rfl, rfl, rfl, trivial⟩ ?_
    refine holds_ret [] (by kernel_rfl) (rr_r63 r w) ?_
    intro wx hm
    refine ⟨ret_bool ?_, hm.kept⟩
    clear hm
    refine bool_eq_iff ?_
    rw [okB_iff, recOk_iff]
    simp_all [n24]
    try omega

end Go.Proofs.Ytpcdccljioiiaaa
