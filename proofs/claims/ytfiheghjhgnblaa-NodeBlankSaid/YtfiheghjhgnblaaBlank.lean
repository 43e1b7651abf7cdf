/- NodeBlank, walked. -/
import Derived.Test.YtfiheghjhgnblaaAwake10
import Derived.Test.YtfiheghjhgnblaaLawM
import Derived.Laws.AppendOwn
import Derived.Test.YtfiheghjhgnblaaPlat4
namespace Go.Proofs.Ytfiheghjhgnblaa
section
open Go.RowKit Go.MapKept Go.ChangeMaps
def losePl (M : Pl) : Pl := { M with last := EMPTY M.n, cs := [], off := false, armed := 0 }
theorem PlOk.lose {pb : Nat} {M : Pl} (h : PlOk pb M) : PlOk pb (losePl M) :=
  { h with len := by simp [losePl, EMPTY], sec := fun L hL => by simp [losePl, EMPTY] at hL; rw [hL.2]; exact secOk_zero, csk := fun _ hc => (by cases hc), nk := List.nodup_nil, nb := List.nodup_nil, c0 := by show (0 : Int) ≤ 0 ∧ (0 : Int) < _; omega }
/- a list of numbers of our own, that grows -/
section
variable {P : Program}
theorem run_clearSecs (w : World) (t e ty : TypeId) (g n cap : Nat) (tt : TypeId) (last : List (List Int)) (b : Nat) (ht : P.underlying t = some (.slice e)) (hi : (P.info? e).map (fun i => (i.zero, i.size, i.bytes)) = some (some (secV zeroSec), 64, b))
    (hB : Blk w g tt (secsV last)) (hl : ∀ L ∈ last, L.length = 64) (hn : last.length = n) (h1n : 1 ≤ n) :
    ∃ w', (Builtin.clear_ #[t] ty #[.slice (some ⟨g, 0, none⟩) n cap]).run P w = .ok (.tuple #[]) w' ∧ Blk w' g tt (secsV (EMPTY n)) ∧ Kept (fun x => x = g) w w' ∧ w'.heap.size = w.heap.size := by
  obtain ⟨inf, hi1, hi2⟩ := Option.map_eq_some_iff.1 hi
  simp only [Prod.mk.injEq] at hi2
  obtain ⟨hz, hs, _⟩ := hi2
  have hcz : (secV zeroSec).cells = (intsV zeroSec).toArray := rfl
  have hrep : intsV zeroSec = List.replicate 64 (.int .u8 0) := by simp [intsV, zeroSec]
  have hz1 : (Builtin.zeroCells (secV zeroSec).cells n).toList = secsV (EMPTY n) := by
    have h1 : secsV (EMPTY n) = List.replicate (n * 64) (.int .u8 0) := by
      unfold secsV EMPTY
      rw [show zeroSec = List.replicate 64 (0 : Int) from rfl, List.flatten_replicate_replicate]
      simp [intsV]
    rw [h1, List.eq_replicate_iff]
    refine ⟨by simp [Builtin.zeroCells, hcz, hrep], fun b hb => ?_⟩
    simp only [Builtin.zeroCells, hcz, hrep, Array.toList_map, List.mem_map] at hb
    obtain ⟨i, _, rfl⟩ := hb
    have hr : ∀ m j, j < m → (List.replicate m (Value.int .u8 0)).toArray[j]! = .int .u8 0 := fun m j h => by simp [h]
    have hsz : (List.replicate 64 (Value.int .u8 0)).toArray.size = 64 := by simp
    rw [hsz]
    exact hr 64 _ (Nat.mod_lt _ (by decide))
  have hlen := secsV_len hl
  have hlen2 : (secsV (EMPTY n)).length = n * 64 := by
    rw [secsV_len (last := EMPTY n) (fun L hL => by simp [EMPTY] at hL; rw [hL.2]; exact secOk_zero.1)]
    simp [EMPTY]
  have hst := run_storeCells_at P g 0 tt (secsV (EMPTY n)) 0 (secsV last).toArray w hB (by simp [hlen, hlen2, hn]) (fun u hu => by
    simp only [secsV, intsV, List.mem_map] at hu
    obtain ⟨x, _, rfl⟩ := hu
    rfl)
  have e3 : ((secsV last).toArray.toList.take 0 ++ secsV (EMPTY n) ++ (secsV last).toArray.toList.drop (0 + (secsV (EMPTY n)).length)) = secsV (EMPTY n) := by
    rw [List.drop_of_length_le (by simp [hlen, hlen2, hn])]
    simp
  simp only [Nat.add_zero] at hst
  rw [e3] at hst
  refine ⟨_, ?_, setRow_blk hB _, setRow_kept w g _, setRow_size w g _⟩
  obtain ⟨m, rfl⟩ : ∃ m, n = m + 1 := ⟨n - 1, by omega⟩
  simp [Builtin.clear_, run_underlying ht, zeroValue, typeInfo, hi1, hz, hz1, hst, Result.andThen]
end
end
section
open Go.RowKit
@[simp] def pls_b1 (n : Nat) (a : Int) (c : Int) (off : Bool) (lb : Nat) (mb : Nat) (pb : Nat) (last : List (List Int)) : List Bk := [⟨pb, 64, true, [.slice (some ⟨lb, 0, none⟩) n n, .map (some mb), .bool off, .int .i64 a, .int .i64 c]⟩, ⟨lb, 80, true, (secsV last)⟩]
@[simp] def pls_b2 (n : Nat) (a : Int) (c : Int) (off : Bool) (lb : Nat) (mb : Nat) (pb : Nat) : List Bk := [⟨pb, 64, true, [.slice (some ⟨lb, 0, none⟩) n n, .map (some mb), .bool off, .int .i64 a, .int .i64 c]⟩, ⟨lb, 80, true, (secsV (EMPTY n))⟩]
set_option maxRecDepth 100000 in
set_option maxHeartbeats 4000000 in
theorem lose_any (n lb mb pb : Nat) (off : Bool) (a c : Int) (cs : List CE) (ck : Nat) (last : List (List Int)) (hn : 1 ≤ n) (hne : ¬pb = lb) (hne1 : pb ≠ mb) (hne3 : lb ≠ mb) (hlen : last.length = n) (hls : ∀ L ∈ last, L.length = 64) (w : World) (hp : Blk w pb 64 [.slice (some ⟨lb, 0, none⟩) n n, .map (some mb), .bool off, .int .i64 a, .int .i64 c]) (hl : Blk w lb 80 (secsV last)) (hmp : MapAt w mb cs ck) :
    Calls Try.prog 16 #[.pointer (some ⟨pb, 0, none⟩)] w (fun e w' => e = .returned (.tuple #[]) ∧ Blk w' pb 64 [.slice (some ⟨lb, 0, none⟩) n n, .map (some mb), .bool false, .int .i64 a, .int .i64 0] ∧ Blk w' lb 80 (secsV (EMPTY n)) ∧ MapAt w' mb [] ck ∧ Kept (fun x => x = pb ∨ x = lb ∨ x = mb) w w') := by
  have hd : ¬ (mb = pb) := fun e => hne1 e.symm
  have hd2 : ¬ (mb = lb) := fun e => hne3 e.symm
  refine calls_of_holds (S := (fun x => x = pb ∨ x = lb)) (l := [(pt pb 0)]) (n := 16) Try.func16 (body_of (by kernel_rfl)) rfl (by simp) (MemOk.start (bk := (pls_b1 n a c off lb mb pb last)) (wn := []) (by simpa using ⟨hp, hl⟩) (by simp) (by simp; exact hne) (by simp)) ?_
  refine hgo 9 [oh0, oh0, oh0, ⟨false, 0, [⟨false, 0, 0, 1⟩]⟩] [0, 5] [] [(pb, 0, 1)] [.ops [0] [4], .code [1]] ⟨[(0, (pt pb 0)), (5, .slice (some ⟨lb, 0, none⟩) n n)], (pls_b1 n a c off lb mb pb last), [], w.heap.size⟩ trivial ?_
  refine holds_op1 (dst := none) (x := Builtin.clear_ #[61] 0 #[.slice (some ⟨lb, 0, none⟩) n n]) (.tuple #[]) (pls_b2 n a c off lb mb pb) (by kernel_rfl) (by kernel_rfl) rfl (fun wx hm => ?_) fun z2 hz2 => ?_
  · obtain ⟨w', h1, h2, h3, h4⟩ := run_clearSecs (P := Try.prog) wx 61 80 0 lb n n 80 last 64 (by kernel_rfl) (by kernel_rfl) (hm.at_ 1 rfl) hls hlen hn
    exact ⟨w', h1, hm.set1 1 rfl rfl h3 h2⟩
  replace hz2 : w.heap.size ≤ z2 := hz2
  refine hgo 10 [oh0, oh0, oh0, ⟨false, 0, [⟨false, 0, 1, 1⟩]⟩] [0, 9] [] [(pb, 1, 1)] [.ops [1, 0] [4], .code [1, 1]] ⟨[(0, (pt pb 0)), (9, .map (some mb))], (pls_b2 n a c off lb mb pb), [], z2⟩ trivial ?_
  refine holds_opW (w := w) (S' := (fun x => x = pb ∨ x = lb ∨ x = mb)) (dst := none) (x := Builtin.clear_ #[62] 0 #[.map (some mb)]) (fun _ => .tuple #[]) (fun _ W3 => MapAt W3 mb [] ck) (fun _ => [(0, (pt pb 0)), (9, .map (some mb))]) (by kernel_rfl) (by kernel_rfl) (fun _ => rfl) (fun wx hm => ?_) (fun _ W3 hX3 hm3 => ?_)
  · obtain ⟨w', h1, h2, h3, h4⟩ := run_clearC (P := Try.prog) wx 62 3 80 0 mb cs ck (by kernel_rfl) (hmp.kept hm.kept (fun e => e.elim (fun e => hne1 e.symm) (fun e => hne3 e.symm)))
    refine ⟨0, w', h1, h2, ?_⟩
    have hS : ∀ x, (x = pb ∨ x = lb) → (x = pb ∨ x = lb ∨ x = mb) := fun x h => h.imp_right .inl
    exact MemOk.off hm hS h3 (fun x e => .inl (.inr (.inr e))) (by
      intro b hb e
      simp at hb
      rcases hb with rfl | rfl
      · exact hne1 e
      · exact hne3 e)
  have hnM : ¬ Turned (pls_b2 n a c off lb mb pb) mb := by
    rintro ⟨b, hb, hr, he⟩
    simp at hb
    rcases hb with rfl | rfl <;> simp at he hr <;> omega
  refine hgo 14 [oh0, oh0, oh0, oh0, ⟨false, 0, [⟨false, 0, 2, 1⟩]⟩, oh0, oh0, ⟨false, 0, [⟨false, 0, 4, 1⟩]⟩] [] [] [(pb, 2, 1), (pb, 4, 1)] [] ⟨[], [⟨pb, 64, true, [.slice (some ⟨lb, 0, none⟩) n n, .map (some mb), .bool false, .int .i64 a, .int .i64 0]⟩, ⟨lb, 80, true, (secsV (EMPTY n))⟩], [], W3.heap.size⟩ trivial ?_
  refine holds_end [] (show _ = some ([], dupR []) by kernel_rfl) ?_
  intro wx hm
  exact ⟨rfl, hm.at_ 0 rfl, hm.at_ 1 rfl, hX3.kept hm.kept hnM, (MemOk.back2 hm3 hm).kept⟩

theorem lose_pl (M : Pl) (pb : Nat) (w : World) (hP : PlatAt 64 80 w pb M) :
    Calls Try.prog 16 #[.pointer (some ⟨pb, 0, none⟩)] w (fun e w' => e = .returned (.tuple #[]) ∧ PlatAt 64 80 w' pb (losePl M) ∧ Kept (minePl pb M) w w') := by
  have hok := hP.ok.lose
  obtain ⟨h1, h2, h3, h4⟩ := hP
  have hls := h4.lens
  obtain ⟨lb, mb, n, last, cs, ck, off, a, c⟩ := M
  refine (lose_any n lb mb pb off a c cs ck last h4.n1.1 h4.ne2 h4.ne1 h4.ne3 h4.len hls w h1 h2 h3).mono fun e w' ⟨he, hB, hl, hmw, hk⟩ => ⟨he, ⟨hB, hl, hmw, hok⟩, hk⟩
end
open Go.RowKit

set_option maxRecDepth 100000 in
set_option maxHeartbeats 4000000 in
theorem pick10_n (c n v : Int) (h : pickZ c n = v) (hc : c < 0) (h1 : 1 ≤ n) (h2 : n ≤ 9223372036854775807) (h3 : -9223372036854775808 ≤ c ∧ c ≤ 9223372036854775807) (w : World) :
    Calls Try.prog 14 #[.int .i64 c, .int .i64 n] w (RetK (.int .i64 v) w) := by
  refine calls_of_holds (S := (fun _ => False)) (l := [.int .i64 c, .int .i64 n]) (n := 13) Try.func14 (body_of (by kernel_rfl)) rfl (by simp) (MemOk.none w _) ?_
  refine hgo 27 [oh0, oh0, oh0, oh1, oh0, oh2, oh2, oh0, oh0, oh0, oh2, oh0] [4] [(decide ((c : Int) < 0)) = true, inR .i64 ((c + 1)), inR .i64 ((0 - (c + 1))), (0 : Int) ≤ (0 - (c + 1)) ∧ (0 : Int) < n] [] [.code [1, 1, 1]] ⟨[(4, .int .i64 ((0 - (c + 1)) % n))], [], [], w.heap.size⟩ ⟨decide_eq_true hc, in64 (by omega), in64 (by omega), ⟨by omega, by omega⟩, trivial⟩ ?_
  refine hrt [] [.int .i64 ((0 - (c + 1)) % n)] [] ?_
  intro wx hm
  refine ⟨?_, hm.kept⟩
  subst h
  simp only [oneOf, pickZ, if_pos hc]
  congr 3
  omega

set_option maxRecDepth 100000 in
set_option maxHeartbeats 4000000 in
theorem pick10_p (c n v : Int) (h : pickZ c n = v) (hc : ¬ c < 0) (h1 : 1 ≤ n) (h2 : n ≤ 9223372036854775807) (h3 : -9223372036854775808 ≤ c ∧ c ≤ 9223372036854775807) (w : World) :
    Calls Try.prog 14 #[.int .i64 c, .int .i64 n] w (RetK (.int .i64 v) w) := by
  refine calls_of_holds (S := (fun _ => False)) (l := [.int .i64 c, .int .i64 n]) (n := 13) Try.func14 (body_of (by kernel_rfl)) rfl (by simp) (MemOk.none w _) ?_
  refine hgo 22 [oh0, oh0, oh0, oh0, oh0, oh0, oh2, oh0] [4] [(decide ((c : Int) < 0)) = false, (0 : Int) ≤ c ∧ (0 : Int) < n] [] [.code [1, 1, 1]] ⟨[(4, .int .i64 (c % n))], [], [], w.heap.size⟩ ⟨decide_eq_false (by omega), ⟨by omega, by omega⟩, trivial⟩ ?_
  refine hrt [] [.int .i64 (c % n)] [] ?_
  intro wx hm
  refine ⟨?_, hm.kept⟩
  subst h
  simp only [oneOf, pickZ, if_neg hc]

theorem pick10 (c n v : Int) (h : pickZ c n = v) (w : World) (h1 : 1 ≤ n) (h2 : n ≤ 9223372036854775807) (h3 : -9223372036854775808 ≤ c ∧ c ≤ 9223372036854775807) : Calls Try.prog 14 #[.int .i64 c, .int .i64 n] w (RetK (.int .i64 v) w) := by
  by_cases hc : c < 0
  · exact pick10_n c n v h hc h1 h2 h3 w
  · exact pick10_p c n v h hc h1 h2 h3 w
theorem on_lose {lb mb n : Nat} {c : Int} {M : Pl} (h : OnPl lb mb n c M) : OnPl lb mb n c (losePl M) := ⟨h.lb, h.mb, h.n, rfl, rfl, h.acts⟩
theorem got_lose {lb mb n : Nat} {c : Int} {M : Pl} (h : OnPl lb mb n c M) : ∀ j, 0 ≤ j ∧ j < (n : Int) → gotM (losePl M) j = blankR 0 := fun j hj => by
  have e : readPl (losePl M) j = zeroSec := by
    show ((List.replicate M.n zeroSec)[j.toNat]?).getD zeroSec = zeroSec
    rw [h.n, List.getElem?_replicate, if_pos (by omega)]
    rfl
  unfold gotM
  rw [e, unpack_zero]
theorem asks10 (a : Int) (ha : 1 ≤ a ∧ a ≤ 100) (b : ByteArray) (hb : b.size = 16) : AskOk ⟨1, 0, a, 0, 0, 0, 0, 0, noText⟩ ∧ AskOk ⟨2, 0, a, 0, 0, 0, 0, 0, noText⟩ ∧ AskOk ⟨7, 0, a, 1, 0, 0, 0, 0, b⟩ := by
  refine ⟨?_, ?_, ?_⟩ <;> constructor <;> dsimp only <;> intros <;> first | omega | rfl | exact hb | exact ⟨rfl, rfl⟩
theorem blank1 (a : Int) (ha : 1 ≤ a) : applyM (blankR 0) ⟨1, 0, a, 0, 0, 0, 0, 0, noText⟩ = (blankR a, ⟨1, a, 0, blankR a⟩) := does_eq (.follow rfl (by show (0 : Int) ≤ a; omega))
theorem blank2 (a : Int) : applyM (blankR a) ⟨2, 0, a, 0, 0, 0, 0, 0, noText⟩ = (blankR a, ⟨5, a, 0, blankR 0⟩) := does_eq (.blank (show (2 : Int) ≠ 1 by decide) (show (2 : Int) < 7 by decide) rfl rfl)
theorem blank3 (a : Int) (b : ByteArray) : applyM (blankR a) ⟨7, 0, a, 1, 0, 0, 0, 0, b⟩ = (⟨true, a, a, 1, b, false, 0, 0, 0, noText⟩, ⟨1, a, 0, blankR 0⟩) := does_eq (.putB rfl rfl rfl)
theorem blank4 (a : Int) (b : ByteArray) : applyM ⟨true, a, a, 1, b, false, 0, 0, 0, noText⟩ ⟨2, 0, a, 0, 0, 0, 0, 0, noText⟩ = (⟨true, a, a, 1, b, false, 0, 0, 0, noText⟩, ⟨1, a, 0, ⟨true, a, a, 1, b, false, 0, 0, 0, noText⟩⟩) := does_eq (.read rfl rfl rfl)
def bla_v1 (acts : Nat → Act10) (i : Nat) : List Value := [.int .i64 ((acts i).ask.kind), .int .i64 ((acts i).ask.stripe), .int .i64 ((acts i).ask.epoch), .int .i64 ((acts i).ask.seq), .int .i64 ((acts i).ask.mask), .int .i64 ((acts i).ask.node), .int .i64 ((acts i).ask.oe), .int .i64 ((acts i).ask.os), .string ((acts i).ask.block)]
def bla_v2 (acts : Nat → Act10) (i : Nat) : List Value := [.int .i64 ((acts i).what), .int .i64 ((acts i).stripe), .int .i64 ((acts i).n), .int .i64 ((acts i).ask.kind), .int .i64 ((acts i).ask.stripe), .int .i64 ((acts i).ask.epoch), .int .i64 ((acts i).ask.seq), .int .i64 ((acts i).ask.mask), .int .i64 ((acts i).ask.node), .int .i64 ((acts i).ask.oe), .int .i64 ((acts i).ask.os), .string ((acts i).ask.block), .string ((acts i).text), .slice (acts i).ka ((acts i).kn) ((acts i).kc)]
def bla_v3 (q : AskM) : List Value := [.int .i64 q.kind, .int .i64 q.stripe, .int .i64 q.epoch, .int .i64 q.seq, .int .i64 q.mask, .int .i64 q.node, .int .i64 q.oe, .int .i64 q.os, .string q.block]
def bla_v4 (B : Int) (q : AskM) : List Value := [.int .i64 q.kind, .int .i64 B, .int .i64 q.epoch, .int .i64 q.seq, .int .i64 q.mask, .int .i64 q.node, .int .i64 q.oe, .int .i64 q.os, .string q.block]
def bla_v5 (s : SayR) : List Value := [.int .i64 s.st, .int .i64 s.ep, .int .i64 s.ou, .bool s.rc.used, .int .i64 s.rc.fence, .int .i64 s.rc.de, .int .i64 s.rc.ds, .string s.rc.block, .bool s.rc.op, .int .i64 s.rc.ie, .int .i64 s.rc.is, .int .i64 s.rc.mask, .string s.rc.staged]
def bla_v6 (D : Int) : List Value := [.int .i64 1, .int .i64 0, .int .i64 (1 + D), .int .i64 0, .int .i64 0, .int .i64 0, .int .i64 0, .int .i64 0, .string ⟨#[]⟩]
def bla_v7 (D : Int) : List Value := [.int .i64 1, .int .i64 (1 + D), .int .i64 0, .bool false, .int .i64 (1 + D), .int .i64 0, .int .i64 0, .string ⟨#[]⟩, .bool false, .int .i64 0, .int .i64 0, .int .i64 0, .string ⟨#[]⟩]
def bla_v8 (D : Int) : List Value := [.int .i64 2, .int .i64 0, .int .i64 (1 + D), .int .i64 0, .int .i64 0, .int .i64 0, .int .i64 0, .int .i64 0, .string ⟨#[]⟩]
def bla_v9 (D : Int) : List Value := [.int .i64 5, .int .i64 (1 + D), .int .i64 0, .bool false, .int .i64 0, .int .i64 0, .int .i64 0, .string ⟨#[]⟩, .bool false, .int .i64 0, .int .i64 0, .int .i64 0, .string ⟨#[]⟩]
def bla_v10 (D : Int) (bs : ByteArray) : List Value := [.int .i64 7, .int .i64 0, .int .i64 (1 + D), .int .i64 1, .int .i64 0, .int .i64 0, .int .i64 0, .int .i64 0, .string bs]
def bla_v11 (D : Int) : List Value := [.int .i64 1, .int .i64 (1 + D), .int .i64 0, .bool false, .int .i64 0, .int .i64 0, .int .i64 0, .string ⟨#[]⟩, .bool false, .int .i64 0, .int .i64 0, .int .i64 0, .string ⟨#[]⟩]
def bla_v12 (D : Int) (bs : ByteArray) : List Value := [.int .i64 1, .int .i64 (1 + D), .int .i64 0, .bool true, .int .i64 (1 + D), .int .i64 (1 + D), .int .i64 1, .string bs, .bool false, .int .i64 0, .int .i64 0, .int .i64 0, .string ⟨#[]⟩]
def bla_v13 : List Value := [.bool false, .int .i64 0, .int .i64 0, .int .i64 0, .string ⟨#[]⟩, .bool false, .int .i64 0, .int .i64 0, .int .i64 0, .string ⟨#[]⟩]
def bla_n1 : List Nat := [1, 1, 1, 1, 1, 0, 1, 0, 0, 1, 1]
@[simp] def bla_b1 (pb : Nat) (sb : Nat) (nb : Nat) : List Bk := [⟨sb, 82, false, [(pt pb 0), .int .i64 2]⟩, ⟨nb, 69, false, [(pt sb 0), .int .i64 2]⟩]
@[simp] def bla_b2 (B : Int) (q : AskM) (pb : Nat) (sb : Nat) (nb : Nat) (z13 : Nat) : List Bk := [⟨sb, 82, false, [(pt pb 0), .int .i64 2]⟩, ⟨nb, 69, false, [(pt sb 0), .int .i64 2]⟩, ⟨z13, 35, true, (bla_v4 B q)⟩]
@[simp] def bla_b3 (pb : Nat) (sb : Nat) (sb2 : Nat) (nb : Nat) (nb2 : Nat) : List Bk := [⟨sb, 82, false, [(pt pb 0), .int .i64 2]⟩, ⟨nb, 69, false, [(pt sb 0), .int .i64 2]⟩, ⟨sb2, 82, false, [(pt pb 0), .int .i64 2]⟩, ⟨nb2, 69, false, [(pt sb2 0), .int .i64 2]⟩]
@[simp] def bla_b4 (pb : Nat) (sb : Nat) (sb2 : Nat) (nb : Nat) (nb2 : Nat) (bl : ByteArray) (bs : ByteArray) (z24 : Nat) (g7 : Nat) (r7 : List Value) : List Bk := [⟨sb, 82, false, [(pt pb 0), .int .i64 2]⟩, ⟨nb, 69, false, [(pt sb 0), .int .i64 2]⟩, ⟨sb2, 82, false, [(pt pb 0), .int .i64 2]⟩, ⟨nb2, 69, false, [(pt sb2 0), .int .i64 2]⟩, ⟨z24, 9, true, [.string bl]⟩, ⟨g7, 9, true, (.string bs :: r7)⟩]
@[simp] def bla_b5 (pb : Nat) (sb : Nat) (sb2 : Nat) (nb : Nat) (nb2 : Nat) (W28 : World) (D : Int) (bl : ByteArray) (bs : ByteArray) (z24 : Nat) (g7 : Nat) (r7 : List Value) : List Bk := [⟨sb, 82, false, [(pt pb 0), .int .i64 2]⟩, ⟨nb, 69, false, [(pt sb 0), .int .i64 2]⟩, ⟨sb2, 82, false, [(pt pb 0), .int .i64 2]⟩, ⟨nb2, 69, false, [(pt sb2 0), .int .i64 2]⟩, ⟨z24, 9, true, [.string bl]⟩, ⟨g7, 9, true, (.string bs :: r7)⟩, ⟨W28.heap.size, 45, true, (bla_v7 D)⟩]
@[simp] def bla_b6 (pb : Nat) (sb : Nat) (sb2 : Nat) (nb : Nat) (nb2 : Nat) (W28 : World) (W29 : World) (D : Int) (bl : ByteArray) (bs : ByteArray) (z24 : Nat) (g7 : Nat) (r7 : List Value) : List Bk := [⟨sb, 82, false, [(pt pb 0), .int .i64 2]⟩, ⟨nb, 69, false, [(pt sb 0), .int .i64 2]⟩, ⟨sb2, 82, false, [(pt pb 0), .int .i64 2]⟩, ⟨nb2, 69, false, [(pt sb2 0), .int .i64 2]⟩, ⟨z24, 9, true, [.string bl]⟩, ⟨g7, 9, true, (.string bs :: r7)⟩, ⟨W28.heap.size, 45, true, (bla_v7 D)⟩, ⟨W29.heap.size, 45, true, (bla_v9 D)⟩]
@[simp] def bla_b7 (pb : Nat) (sb : Nat) (sb2 : Nat) (nb : Nat) (nb2 : Nat) (W28 : World) (W29 : World) (D : Int) (bl : ByteArray) (bs : ByteArray) (z24 : Nat) (g7 : Nat) (r7 : List Value) (W30 : World) : List Bk := [⟨sb, 82, false, [(pt pb 0), .int .i64 2]⟩, ⟨nb, 69, false, [(pt sb 0), .int .i64 2]⟩, ⟨sb2, 82, false, [(pt pb 0), .int .i64 2]⟩, ⟨nb2, 69, false, [(pt sb2 0), .int .i64 2]⟩, ⟨z24, 9, true, [.string bl]⟩, ⟨g7, 9, true, (.string bs :: r7)⟩, ⟨W28.heap.size, 45, true, (bla_v7 D)⟩, ⟨W29.heap.size, 45, true, (bla_v9 D)⟩, ⟨W30.heap.size, 45, true, (bla_v11 D)⟩]
def BlankI (A : Option Addr) (n : Nat) (cp : Nat) (lb : Nat) (mb : Nat) (pb : Nat) (sb : Nat) (nb : Nat) (ep : Int) (bl : ByteArray)  (m : Nat) (st : St) (W0 : World) : Prop :=
  ∃ (i : Nat) (M : Pl) (z : Nat), m + i = 30 ∧ OnPl lb mb 2 (4 + 2 * (i : Int)) M ∧ PlatAt 64 80 W0 pb M ∧ st = ⟨[(0, .slice A n cp), (1, .int .i64 ep), (2, .string bl), (6, .bool false), (8, (pt pb 0)), (10, (pt nb 0)), (12, .int .i64 (i : Int))], (bla_b1 pb sb nb), [], z⟩
set_option maxRecDepth 100000 in
set_option maxHeartbeats 4000000 in
theorem blankL_any (A : Option Addr) (n cp : Nat) (acts : Nat → Act10) (ep : Int) (bl : ByteArray) (w : World) (HF : Acts10At w A n acts) (hep : I64 ep) :
    Calls Try.prog 5 #[.slice A n cp, .int .i64 ep, .string bl] w (RetK (.bool true) w) := by
  refine calls_of_holds (S := (fun _ => False)) (l := [.slice A n cp, .int .i64 ep, .string bl]) (n := 174) Try.func5 (body_of (by kernel_rfl)) rfl (by simp) (MemOk.none w _) ?_
  refine hgo 9 [oh0] [0, 1, 2, 6] [] [] [.ops [1, 0] [0, 1], .code [1, 1]] ⟨[(0, .slice A n cp), (1, .int .i64 ep), (2, .string bl), (6, .bool false)], [], [], w.heap.size⟩ trivial ?_
  refine hcp (.bool true) 7 [] (some 28) [] trivial rfl (fun wx hm => awake10P wx) fun z2 hz2 => ?_
  replace hz2 : w.heap.size ≤ z2 := hz2
  refine hgo 7 [oh0] [0, 1, 2, 6, 7] [] [] [.ops [1, 1, 0] [0, 1, 2, 3, 4, 5], .code [1, 1, 1]] ⟨[(0, .slice A n cp), (1, .int .i64 ep), (2, .string bl), (6, .bool false), (7, .bool true)], [], [], z2⟩ trivial ?_
  refine holds_callW (w := w) (S' := (fun _ => False)) (Y := Nat × Nat × Nat) (fun (⟨lb, mb, pb⟩ : Nat × Nat × Nat) => .tuple #[(pt pb 0), .int .i64 0]) (fun (⟨lb, mb, pb⟩ : Nat × Nat × Nat) => []) (fun (⟨lb, mb, pb⟩ : Nat × Nat × Nat) W_ => (z2 ≤ lb ∧ lb < mb ∧ mb < pb) ∧ PlatAt 64 80 W_ pb (newPl lb mb 2)) (fun (⟨lb, mb, pb⟩ : Nat × Nat × Nat) => [(30, .tuple #[(pt pb 0), .int .i64 0]), (0, .slice A n cp), (1, .int .i64 ep), (2, .string bl), (6, .bool false), (7, .bool true)]) (show _ = some (8, [.int .i64 2], some 30, []) by kernel_rfl) trivial (fun _ => rfl) (fun wx hm => ?_) (fun y W1 hX1 hm1 => ?_)
  · refine (new_pl 2 (by omega) wx).mono fun e w' ⟨lb', mb', pb', he, h1, h2, h3, h4, h5⟩ => ?_
    have hs : wx.heap.size = z2 := hm.size
    exact ⟨(lb', mb', pb'), he, ⟨⟨by omega, h2, h3⟩, h4⟩, (hm.same h5).2⟩
  obtain ⟨lb, mb, pb⟩ := y
  obtain ⟨hz_pb, hX1⟩ := hX1
  have hA_pb := on_new lb mb 2
  have hP1pb := hX1
  have hl_hP1pb := on_lt hA_pb hP1pb
  have hnT : ∀ xx, (xx = pb ∨ xx = lb ∨ xx = mb) → ¬ Turned [] xx := by
    rintro xx hx2 ⟨b, hb, hr, he⟩
    simp at hb
  refine hgo 12 [oh0, oh0, oh0, oh0, oh0, oh0] [0, 1, 2, 6, 7, 8, 34] [] [] [.ops [1, 1, 1, 0] [1, 2, 3, 4, 5, 6], .code [1, 1, 1, 1]] ⟨[(0, .slice A n cp), (1, .int .i64 ep), (2, .string bl), (6, .bool false), (7, .bool true), (8, (pt pb 0)), (34, (pt pb 0))], [], [], W1.heap.size⟩ trivial ?_
  refine holds_callW (w := w) (S' := (fun _ => False)) (Y := Nat × Nat) (fun (⟨sb, nb⟩ : Nat × Nat) => .tuple #[(pt nb 0), .int .i64 0]) (fun (⟨sb, nb⟩ : Nat × Nat) => (bla_b1 pb sb nb)) (fun (⟨sb, nb⟩ : Nat × Nat) W_ => (W1.heap.size ≤ sb ∧ sb < nb) ∧ PlatAt 64 80 W_ pb (newPl lb mb 2)) (fun (⟨sb, nb⟩ : Nat × Nat) => [(35, .tuple #[(pt nb 0), .int .i64 0]), (0, .slice A n cp), (1, .int .i64 ep), (2, .string bl), (6, .bool false), (7, .bool true), (8, (pt pb 0)), (34, (pt pb 0))]) (show _ = some (9, [(pt pb 0), .int .i64 2], some 35, []) by kernel_rfl) trivial (fun _ => rfl) (fun wx hm => ?_) (fun y W2 hX2 hm2 => ?_)
  · refine (nodeNew_st (newPl lb mb 2) pb 2 (by omega) (by rw [hA_pb.n]; omega) wx (hP1pb.kept hm.kept (fun xx hx => hnT xx (by have := on_mine hA_pb hx; omega)))).mono fun e w' ⟨sb', nb', he, h1, h2, h3, h4, h5⟩ => ?_
    have hs : wx.heap.size = W1.heap.size := hm.size
    exact ⟨(sb', nb'), he, ⟨⟨by omega, h2⟩, (hP1pb.kept hm.kept (fun xx hx => hnT xx (by have := on_mine hA_pb hx; omega))).kept h5 (fun _ _ h => h)⟩, ((MemOk.back2 hm1 hm).add h5 [⟨sb', 82, false, _⟩, ⟨nb', 69, false, _⟩] ⟨h3, h4, trivial⟩ (by simp; omega) (by simp; omega)).2⟩
  clear hnT
  obtain ⟨sb, nb⟩ := y
  obtain ⟨hz_nb, hX2⟩ := hX2
  have hP2pb := hX2
  have hl_hP2pb := on_lt hA_pb hP2pb
  have hgb2_0 : sb < W2.heap.size := (hm2.at_ 0 rfl).lt
  have hgb2_1 : nb < W2.heap.size := (hm2.at_ 1 rfl).lt
  have hnT : ∀ xx, (xx = pb ∨ xx = lb ∨ xx = mb) → ¬ Turned (bla_b1 pb sb nb) xx := by
    rintro xx hx2 ⟨b, hb, hr, he⟩
    simp at hb
    rcases hb with rfl | rfl <;> simp at he hr <;> omega
  refine hgo 24 [oh0, oh0, oh0, oh0, oh0, oh0, oh0, oh0, oh0, oh0, ⟨false, 3, []⟩, oh0, oh0, oh0, ⟨false, 3, []⟩, oh0, oh0] [0, 1, 2, 6, 8, 10, 48, 49] [false = false, false = false, false = false, false = false, false = false, false = false, false = false] [] [.ops [1, 1, 1, 1, 0, 0] [12, 13, 14], .code [1, 1, 1, 1, 0, 1], .code [1, 1, 1, 1, 1]] ⟨[(0, .slice A n cp), (1, .int .i64 ep), (2, .string bl), (6, .bool false), (8, (pt pb 0)), (10, (pt nb 0)), (48, .bool false), (49, (pt nb 0))], (bla_b1 pb sb nb), [], W2.heap.size⟩ ⟨rfl, rfl, rfl, rfl, rfl, rfl, rfl, trivial⟩ ?_
  obtain ⟨hA_f, hK_f, hG_f⟩ := on_fmt hA_pb hP2pb.ok (by omega) 2 (by omega)
  have hnB : ∀ b ∈ ((bla_b1 pb sb nb) : List Bk), ¬ (b.g = pb ∨ b.g = lb ∨ b.g = mb) := by
    intro b hb hx2
    simp at hb
    rcases hb with rfl | rfl <;> simp at hx2 <;> omega
  refine holds_callW (w := w) (S' := (fun _ => False)) (Y := Nat) (fun _ => .int .i64 0) (fun _ => (bla_b1 pb sb nb)) (fun _ W_ => PlatAt 64 80 W_ pb (fmtPl (newPl lb mb 2) 2)) (fun _ => [(50, .int .i64 0), (0, .slice A n cp), (1, .int .i64 ep), (2, .string bl), (6, .bool false), (8, (pt pb 0)), (10, (pt nb 0)), (48, .bool false), (49, (pt nb 0))]) (show _ = some (10, [(pt nb 0)], some 50, [false = false]) by kernel_rfl) ⟨rfl, trivial⟩ (fun _ => rfl) (fun wx hm => ?_) (fun _ W3 hX3 hm3 => ?_)
  · refine (nodeFormat_pl (newPl lb mb 2) pb sb nb 2 lb mb 0 (by omega) hA_pb (by omega) (fun h => by have := on_mine hA_pb h; omega) (fun h => by have := on_mine hA_pb h; omega) (by omega) wx (hP2pb.kept hm.kept (fun xx hx => hnT xx (by have := on_mine hA_pb hx; omega))) (hm.at_ 0 rfl) (hm.at_ 1 rfl)).mono fun e w' ⟨h1, h2, h3⟩ => ?_
    exact ⟨0, h1, h2, (MemOk.back2 hm2 hm).off (fun _ h => h) h3 (fun x h => .inr (by have := on_mine hA_pb h; omega)) (fun b hb h => hnB b hb (by have := on_mine hA_pb h; omega))⟩
  clear hnT hnB
  have hP3pb := hX3
  have hl_hP3pb := on_lt hA_f hP3pb
  have hgb3_0 : sb < W3.heap.size := (hm3.at_ 0 rfl).lt
  have hgb3_1 : nb < W3.heap.size := (hm3.at_ 1 rfl).lt
  have hnT : ∀ xx, (xx = pb ∨ xx = lb ∨ xx = mb) → ¬ Turned (bla_b1 pb sb nb) xx := by
    rintro xx hx2 ⟨b, hb, hr, he⟩
    simp at hb
    rcases hb with rfl | rfl <;> simp at he hr <;> omega
  refine hgo 14 [oh0, ⟨false, 3, []⟩, oh0, oh0] [0, 1, 2, 6, 8, 10, 12] [false = false, false = false, false = false] [] [.code [1, 1, 1, 1, 1, 0, 1, 0], .blk 0, .code [1, 1, 1, 1, 1, 1]] ⟨[(0, .slice A n cp), (1, .int .i64 ep), (2, .string bl), (6, .bool false), (8, (pt pb 0)), (10, (pt nb 0)), (12, .int .i64 0)], (bla_b1 pb sb nb), [], W3.heap.size⟩ ⟨rfl, rfl, rfl, trivial⟩ ?_
  refine holds_loopW (w := w) (S' := fun _ => False) (BlankI A n cp lb mb pb sb nb ep bl) 30 (by kernel_rfl) (fun W0 hm => ⟨⟨0, fmtPl (newPl lb mb 2) 2, _, rfl, hA_f, (hP3pb.kept hm.kept (fun xx hx => hnT xx (by have := on_mine hA_f hx; omega))), rfl⟩, MemOk.back2 hm3 hm⟩) ?_
  clear hnT hA_f hK_f hG_f
  rintro m _ W20 ⟨i, M, z, hmi, hA, hP20pb, rfl⟩ hm20 J hJ
  have hl_hP20pb := on_lt hA hP20pb
  have hgb20_0 : sb < W20.heap.size := (hm20.at_ 0 rfl).lt
  have hgb20_1 : nb < W20.heap.size := (hm20.at_ 1 rfl).lt
  have hnT : ∀ xx, (xx = pb ∨ xx = lb ∨ xx = mb) → ¬ Turned (bla_b1 pb sb nb) xx := by
    rintro xx hx2 ⟨b, hb, hr, he⟩
    simp at hb
    rcases hb with rfl | rfl <;> simp at he hr <;> omega
  have hw1 := hm20.kept.size
  suffices HX : ∀ W25, PlatAt 64 80 W25 pb M → MemOk w (fun _ => False) (bla_b1 pb sb nb) [] W25.heap.size W25 → Holds [] Try.prog (bodyOf Try.f5) 174 W25 (Turned (bla_b1 pb sb nb)) (bodyPost Try.prog Try.f5 (RetK (.bool true) w)) [.ops [1, 1, 1, 1, 1, 1, 0] [0, 1], .code [1, 1, 1, 1, 1, 1, 1]] ⟨[(1, .int .i64 ep), (2, .string bl), (6, .bool false), (8, (pt pb 0))], (bla_b1 pb sb nb), [], W25.heap.size⟩ by
    by_cases h1 : i < n
    rotate_left
    · skip
      refine hgo 19 [oh0, oh0, oh0, oh0, oh0, oh0, oh0, ⟨false, 3, []⟩, oh0] [1, 2, 6, 8] [(decide (((i : Int) : Int) < (n : Int))) = false, (decide (((i : Int) : Int) < (n : Int))) = false, (decide (((i : Int) : Int) < (n : Int))) = false, false = false] [] [.ops [1, 1, 1, 1, 1, 1, 0] [0, 1], .code [1, 1, 1, 1, 1, 1, 1]] ⟨[(1, .int .i64 ep), (2, .string bl), (6, .bool false), (8, (pt pb 0))], (bla_b1 pb sb nb), [], W20.heap.size⟩ ⟨decide_eq_false (by omega), decide_eq_false (by omega), decide_eq_false (by omega), rfl, trivial⟩ ?_
      exact holds_ground [true, true] rfl (fun W hm hmW => HX W (hP20pb.kept hm.kept (fun xx hx => hnT xx (by have := on_mine hA hx; omega))) (MemOk.back2 hm20 hmW))
    by_cases h2 : i < 30
    rotate_left
    · skip
      refine hgo 19 [oh0, oh0, oh0, oh0, oh0, oh1, oh1, oh3, oh0] [1, 2, 6, 8] [(decide (((i : Int) : Int) < (n : Int))) = true, (decide (((i : Int) : Int) < (n : Int))) = true, (decide (((i : Int) : Int) < (n : Int))) = true, (decide (((i : Int) : Int) < 30)) = false] [] [.ops [1, 1, 1, 1, 1, 1, 0] [0, 1], .code [1, 1, 1, 1, 1, 1, 1]] ⟨[(1, .int .i64 ep), (2, .string bl), (6, .bool false), (8, (pt pb 0))], (bla_b1 pb sb nb), [], W20.heap.size⟩ ⟨decide_eq_true (by omega), decide_eq_true (by omega), decide_eq_true (by omega), decide_eq_false (by omega), trivial⟩ ?_
      exact holds_ground [true, true] rfl (fun W hm hmW => HX W (hP20pb.kept hm.kept (fun xx hx => hnT xx (by have := on_mine hA hx; omega))) (MemOk.back2 hm20 hmW))
    obtain ⟨ha, b, o, rfl, hb, hc⟩ := HF i h1
    have hnb : ∀ x, x < w.heap.size → ¬ Turned (bla_b1 pb sb nb) x := by
      rintro x hx ⟨b, hb, hr, he⟩
      simp at hb
      rcases hb with rfl | rfl <;> simp at he hr
    refine holds_wins [⟨b, o + i * 14, (acts i).cells⟩] (fun _ x hx => ?_) ?_
    · simp only [List.mem_singleton] at hx
      subst hx
      exact ⟨hnb _ hb, win_kept hb hc rfl hm20.kept id⟩
    obtain ⟨q, hq⟩ : ∃ q, fitF (acts i).ask = q := ⟨_, rfl⟩
    obtain ⟨B, hBp⟩ : ∃ B, pickZ (acts i).stripe 2 = B := ⟨_, rfl⟩
    have hBb := pickZ_bd (acts i).stripe 2 (by omega)
    rw [hBp] at hBb
    have hqok := qs_ok (hq ▸ fitF_ok (acts i).ask) (k := B) (by omega)
    obtain ⟨s, hs⟩ : ∃ s, servS M (qs q B) = s := ⟨_, rfl⟩
    obtain ⟨hA2, hO2, hS2, hG2⟩ := on_serv hA hP20pb.ok hqok
    refine hgo 26 [oh0, oh0, oh0, oh0, oh0, oh1, oh1, oh3, oh1, oh0, oh0, oh2, oh0, ⟨false, 0, [⟨true, 0, 3, 9⟩]⟩] [0, 1, 2, 6, 8, 10, 12, 67] [(decide (((i : Int) : Int) < (n : Int))) = true, (decide (((i : Int) : Int) < (n : Int))) = true, (decide (((i : Int) : Int) < (n : Int))) = true, (decide (((i : Int) : Int) < 30)) = true, (0 : Int) ≤ (i : Int) ∧ (i : Int) < ((n : Nat) : Int)] [(b, o + i * 14 + 3, 9)] [.ops [1, 1, 1, 1, 1, 0, 1, 0, 0, 1, 0, 0, 0] [5, 6, 7], .code [1, 1, 1, 1, 1, 0, 1, 0, 0, 1, 0, 0, 1], .blk 1, .code bla_n1, .inv J, .blk 0, .code [1, 1, 1, 1, 1, 1]] ⟨[(0, .slice (some ⟨b, o, none⟩) n cp), (1, .int .i64 ep), (2, .string bl), (6, .bool false), (8, (pt pb 0)), (10, (pt nb 0)), (12, .int .i64 (i : Int)), (67, .agg (List.toArray (bla_v1 acts i)))], (bla_b1 pb sb nb), [⟨b, o + i * 14, (bla_v2 acts i)⟩], W20.heap.size⟩ ⟨decide_eq_true (by omega), decide_eq_true (by omega), decide_eq_true (by omega), decide_eq_true (by omega), ⟨by omega, by omega⟩, trivial⟩ ?_
    refine hcp (.agg (List.toArray (bla_v3 q))) 11 [.agg (List.toArray (bla_v1 acts i))] (some 68) [] trivial rfl (fun wx hm => fitP (acts i).ask q hq wx ha.ask) fun z13 hz13 => ?_
    replace hz13 : W20.heap.size ≤ z13 := hz13
    refine hgo 13 [oh0, ⟨false, 0, [⟨false, 2, 0, 9⟩]⟩, oh0, oh0, oh2, oh0, ⟨false, 0, [⟨true, 0, 1, 1⟩]⟩] [0, 1, 2, 6, 8, 10, 12, 13, 73] [(0 : Int) ≤ (i : Int) ∧ (i : Int) < ((n : Nat) : Int)] [(z13, 0, 9), (b, o + i * 14 + 1, 1)] [.ops [1, 1, 1, 1, 1, 0, 1, 0, 0, 1, 0, 0, 1, 0] [5, 6, 7], .code [1, 1, 1, 1, 1, 0, 1, 0, 0, 1, 0, 0, 1, 1], .blk 1, .code bla_n1, .inv J, .blk 0, .code [1, 1, 1, 1, 1, 1]] ⟨[(0, .slice (some ⟨b, o, none⟩) n cp), (1, .int .i64 ep), (2, .string bl), (6, .bool false), (8, (pt pb 0)), (10, (pt nb 0)), (12, .int .i64 (i : Int)), (13, (pt z13 0)), (73, .int .i64 ((acts i).stripe))], [⟨sb, 82, false, [(pt pb 0), .int .i64 2]⟩, ⟨nb, 69, false, [(pt sb 0), .int .i64 2]⟩, ⟨z13, 35, true, (bla_v3 q)⟩], [⟨b, o + i * 14, (bla_v2 acts i)⟩], z13 + 1⟩ ⟨⟨by omega, by omega⟩, trivial⟩ ?_
    refine hcp (.int .i64 B) 14 [.int .i64 ((acts i).stripe), .int .i64 2] (some 74) [] trivial rfl (fun wx hm => pick10 _ _ _ hBp wx (by omega) (by omega) ha.stripe) fun z15 hz15 => ?_
    replace hz15 : z13 + 1 ≤ z15 := hz15
    refine hgo 9 [oh0, ⟨false, 0, [⟨false, 2, 1, 1⟩]⟩, oh0, ⟨false, 0, [⟨false, 2, 0, 9⟩]⟩] [0, 1, 2, 6, 8, 10, 12, 76, 77] [] [(z13, 1, 1), (z13, 0, 9)] [.ops [1, 1, 1, 1, 1, 0, 1, 0, 0, 1, 0, 0, 1, 1] [2], .blk 1, .code bla_n1, .inv J, .blk 0, .code [1, 1, 1, 1, 1, 1]] ⟨[(0, .slice (some ⟨b, o, none⟩) n cp), (1, .int .i64 ep), (2, .string bl), (6, .bool false), (8, (pt pb 0)), (10, (pt nb 0)), (12, .int .i64 (i : Int)), (76, (pt nb 0)), (77, .agg (List.toArray (bla_v4 B q)))], (bla_b2 B q pb sb nb z13), [⟨b, o + i * 14, (bla_v2 acts i)⟩], z15⟩ trivial ?_
    have hnB : ∀ b ∈ ((bla_b2 B q pb sb nb z13) : List Bk), ¬ (b.g = pb ∨ b.g = lb ∨ b.g = mb) := by
      intro b hb hx2
      simp at hb
      rcases hb with rfl | rfl | rfl <;> simp at hx2 <;> omega
    refine holds_callW (w := w) (S' := (fun _ => False)) (Y := Nat) (fun _ => .tuple #[.agg (List.toArray (bla_v5 s)), .bool true]) (fun _ => (bla_b2 B q pb sb nb z13)) (fun _ W_ => PlatAt 64 80 W_ pb (servPl M (qs q B))) (fun _ => [(78, .tuple #[.agg (List.toArray (bla_v5 s)), .bool true]), (0, .slice (some ⟨b, o, none⟩) n cp), (1, .int .i64 ep), (2, .string bl), (6, .bool false), (8, (pt pb 0)), (10, (pt nb 0)), (12, .int .i64 (i : Int)), (76, (pt nb 0)), (77, .agg (List.toArray (bla_v4 B q)))]) (show _ = some (12, [(pt nb 0), .agg (List.toArray (bla_v4 B q))], some 78, []) by kernel_rfl) trivial (fun _ => rfl) (fun wx hm => ?_) (fun _ W21 hX21 hm21 => ?_)
    · refine (serve_pl M pb sb nb 2 (qs q B) hqok (by exact hBb.2) (by rw [hA.n]; exact hBb.2) hA.off (by have := hA.acts; omega) (fun h => by have := on_mine hA h; omega) (fun h => by have := on_mine hA h; omega) (by omega) wx (hP20pb.kept hm.kept (fun xx hx => hnT xx (by have := on_mine hA hx; omega))) (hm.at_ 0 rfl) (hm.at_ 1 rfl)).mono fun e w' ⟨h1, h2, h3⟩ => ?_
      rw [hO2, hs] at h1
      exact ⟨0, h1, h2, (MemOk.back2 hm20 hm).off (fun _ h => h) h3 (fun x h => .inr (by have := on_mine hA h; omega)) (fun b hb h => hnB b hb (by have := on_mine hA h; omega))⟩
    clear hnT hnB
    have hP21pb := hX21
    have hl_hP21pb := on_lt hA2 hP21pb
    have hgb21_0 : sb < W21.heap.size := (hm21.at_ 0 rfl).lt
    have hgb21_1 : nb < W21.heap.size := (hm21.at_ 1 rfl).lt
    have hgb21_2 : z13 < W21.heap.size := (hm21.at_ 2 rfl).lt
    have hnT : ∀ xx, (xx = pb ∨ xx = lb ∨ xx = mb) → ¬ Turned (bla_b2 B q pb sb nb z13) xx := by
      rintro xx hx2 ⟨b, hb, hr, he⟩
      simp at hb
      rcases hb with rfl | rfl | rfl <;> simp at he hr <;> omega
    refine hgo 10 [oh0, oh2, oh0] [0, 1, 2, 6, 8, 10, 12] [inR .i64 (((i : Int) + 1))] [] [.inv J, .blk 0, .code [1, 1, 1, 1, 1, 1]] ⟨[(0, .slice (some ⟨b, o, none⟩) n cp), (1, .int .i64 ep), (2, .string bl), (6, .bool false), (8, (pt pb 0)), (10, (pt nb 0)), (12, .int .i64 ((i : Int) + 1))], (bla_b2 B q pb sb nb z13), [], W21.heap.size⟩ ⟨in64 (by omega), trivial⟩ ?_
    refine holds_wins [] (fun _ _ h => by cases h) ?_
    refine holds_prune [0, 1, 2, 6, 8, 10, 12] [true, true, false] ?_
    intro a w4 hf hm
    exact hJ (m - 1) _ a w4 (by omega) ⟨i + 1, servPl M (qs q B), W21.heap.size, by omega, hA2.le (by omega), (hP21pb.kept hm.kept (fun xx hx => hnT xx (by have := on_mine hA2 hx; omega))), by rw [← cast_succ i]; rfl⟩ hf (MemOk.back2 hm21 hm)
  clear hnT hP20pb hm20 hJ hw1 hl_hP20pb hgb20_0 hgb20_1
  intro W25 hX25 hm25
  have hP25pb := hX25
  have hl_hP25pb := on_lt hA hP25pb
  have hgb25_0 : sb < W25.heap.size := (hm25.at_ 0 rfl).lt
  have hgb25_1 : nb < W25.heap.size := (hm25.at_ 1 rfl).lt
  have hnT : ∀ xx, (xx = pb ∨ xx = lb ∨ xx = mb) → ¬ Turned (bla_b1 pb sb nb) xx := by
    rintro xx hx2 ⟨b, hb, hr, he⟩
    simp at hb
    rcases hb with rfl | rfl <;> simp at he hr <;> omega
  have hA9 := on_lose (hA.le (show 4 + 2 * (i : Int) ≤ 64 by omega))
  have hG9 := got_lose hA
  obtain ⟨D, hD⟩ : ∃ D, pickZ ep 100 = D := ⟨_, rfl⟩
  have hDb := pickZ_bd ep 100 (by omega)
  rw [hD] at hDb
  obtain ⟨bs, hbs⟩ : ∃ b, strL 16 bl = b := ⟨_, rfl⟩
  have hbz : bs.size = 16 := by rw [← hbs]; exact size_strL 16 bl
  obtain ⟨hq1, hq2, hq3⟩ := asks10 (1 + D) (by omega) bs hbz
  obtain ⟨N1, hN1⟩ : ∃ N, losePl M = N := ⟨_, rfl⟩
  rw [hN1] at hA9 hG9
  refine hgo 4 [oh0] [1, 2, 6, 8, 79] [] [] [.ops [1, 1, 1, 1, 1, 1, 0] [1], .code [1, 1, 1, 1, 1, 1, 1]] ⟨[(1, .int .i64 ep), (2, .string bl), (6, .bool false), (8, (pt pb 0)), (79, (pt pb 0))], (bla_b1 pb sb nb), [], W25.heap.size⟩ trivial ?_
  have hnB : ∀ b ∈ ((bla_b1 pb sb nb) : List Bk), ¬ (b.g = pb ∨ b.g = lb ∨ b.g = mb) := by
    intro b hb hx2
    simp at hb
    rcases hb with rfl | rfl <;> simp at hx2 <;> omega
  refine holds_callW (w := w) (S' := (fun _ => False)) (Y := Nat) (fun _ => .tuple #[]) (fun _ => (bla_b1 pb sb nb)) (fun _ W_ => PlatAt 64 80 W_ pb N1) (fun _ => [(80, .tuple #[]), (1, .int .i64 ep), (2, .string bl), (6, .bool false), (8, (pt pb 0)), (79, (pt pb 0))]) (show _ = some (16, [(pt pb 0)], some 80, []) by kernel_rfl) trivial (fun _ => rfl) (fun wx hm => ?_) (fun _ W26 hX26 hm26 => ?_)
  · refine (lose_pl M pb wx (hP25pb.kept hm.kept (fun xx hx => hnT xx (by have := on_mine hA hx; omega)))).mono fun e w' ⟨h1, h2, h3⟩ => ?_
    rw [hN1] at h2
    exact ⟨0, h1, h2, (MemOk.back2 hm25 hm).off (fun _ h => h) h3 (fun x h => .inr (by have := on_mine hA h; omega)) (fun b hb h => hnB b hb (by have := on_mine hA h; omega))⟩
  clear hnT hnB
  have hP26pb := hX26
  have hl_hP26pb := on_lt hA9 hP26pb
  have hgb26_0 : sb < W26.heap.size := (hm26.at_ 0 rfl).lt
  have hgb26_1 : nb < W26.heap.size := (hm26.at_ 1 rfl).lt
  have hnT : ∀ xx, (xx = pb ∨ xx = lb ∨ xx = mb) → ¬ Turned (bla_b1 pb sb nb) xx := by
    rintro xx hx2 ⟨b, hb, hr, he⟩
    simp at hb
    rcases hb with rfl | rfl <;> simp at he hr <;> omega
  refine hgo 7 [oh0] [1, 2, 6, 82] [] [] [.ops [1, 1, 1, 1, 1, 1, 1, 0] [1, 2, 3, 4, 5, 6], .code [1, 1, 1, 1, 1, 1, 1, 1]] ⟨[(1, .int .i64 ep), (2, .string bl), (6, .bool false), (82, (pt pb 0))], (bla_b1 pb sb nb), [], W26.heap.size⟩ trivial ?_
  refine holds_callW (w := w) (S' := (fun _ => False)) (Y := Nat × Nat) (fun (⟨sb2, nb2⟩ : Nat × Nat) => .tuple #[(pt nb2 0), .int .i64 0]) (fun (⟨sb2, nb2⟩ : Nat × Nat) => (bla_b3 pb sb sb2 nb nb2)) (fun (⟨sb2, nb2⟩ : Nat × Nat) W_ => (W26.heap.size ≤ sb2 ∧ sb2 < nb2) ∧ PlatAt 64 80 W_ pb N1) (fun (⟨sb2, nb2⟩ : Nat × Nat) => [(83, .tuple #[(pt nb2 0), .int .i64 0]), (1, .int .i64 ep), (2, .string bl), (6, .bool false), (82, (pt pb 0))]) (show _ = some (9, [(pt pb 0), .int .i64 2], some 83, []) by kernel_rfl) trivial (fun _ => rfl) (fun wx hm => ?_) (fun y W27 hX27 hm27 => ?_)
  · refine (nodeNew_st N1 pb 2 (by omega) (by rw [hA9.n]; omega) wx (hP26pb.kept hm.kept (fun xx hx => hnT xx (by have := on_mine hA9 hx; omega)))).mono fun e w' ⟨sb', nb', he, h1, h2, h3, h4, h5⟩ => ?_
    have hs : wx.heap.size = W26.heap.size := hm.size
    exact ⟨(sb', nb'), he, ⟨⟨by omega, h2⟩, (hP26pb.kept hm.kept (fun xx hx => hnT xx (by have := on_mine hA9 hx; omega))).kept h5 (fun _ _ h => h)⟩, ((MemOk.back2 hm26 hm).add h5 [⟨sb', 82, false, _⟩, ⟨nb', 69, false, _⟩] ⟨h3, h4, trivial⟩ (by simp; omega) (by simp; omega)).2⟩
  clear hnT
  obtain ⟨sb2, nb2⟩ := y
  obtain ⟨hz_nb2, hX27⟩ := hX27
  have hP27pb := hX27
  have hl_hP27pb := on_lt hA9 hP27pb
  have hgb27_0 : sb < W27.heap.size := (hm27.at_ 0 rfl).lt
  have hgb27_1 : nb < W27.heap.size := (hm27.at_ 1 rfl).lt
  have hgb27_2 : sb2 < W27.heap.size := (hm27.at_ 2 rfl).lt
  have hgb27_3 : nb2 < W27.heap.size := (hm27.at_ 3 rfl).lt
  have hnT : ∀ xx, (xx = pb ∨ xx = lb ∨ xx = mb) → ¬ Turned (bla_b3 pb sb sb2 nb nb2) xx := by
    rintro xx hx2 ⟨b, hb, hr, he⟩
    simp at hb
    rcases hb with rfl | rfl | rfl | rfl <;> simp at he hr <;> omega
  refine hgo 24 [oh0, oh0, oh0, oh0, oh0, oh0, oh0, oh0, oh0, oh0, ⟨false, 3, []⟩, oh0, oh0] [2, 6, 14, 92] [false = false, false = false, false = false, false = false] [] [.ops [1, 1, 1, 1, 1, 1, 1, 1, 1, 0] [1, 2, 3], .code [1, 1, 1, 1, 1, 1, 1, 1, 1, 1]] ⟨[(2, .string bl), (6, .bool false), (14, (pt nb2 0)), (92, .int .i64 ep)], (bla_b3 pb sb sb2 nb nb2), [], W27.heap.size⟩ ⟨rfl, rfl, rfl, rfl, trivial⟩ ?_
  refine hcp (.int .i64 D) 14 [.int .i64 ep, .int .i64 100] (some 93) [] trivial rfl (fun wx hm => pick10 _ _ _ hD wx (by omega) (by omega) hep) fun z24 hz24 => ?_
  replace hz24 : W27.heap.size ≤ z24 := hz24
  refine hgo 10 [oh2, oh0, oh0, oh0] [6, 14, 16, 96] [inR .i64 ((1 + D))] [] [.ops [1, 1, 1, 1, 1, 1, 1, 1, 1, 1, 0] [2, 3, 4, 5], .code [1, 1, 1, 1, 1, 1, 1, 1, 1, 1, 1]] ⟨[(6, .bool false), (14, (pt nb2 0)), (16, .int .i64 (1 + D)), (96, .slice (some ⟨z24, 0, none⟩) 1 1)], [⟨sb, 82, false, [(pt pb 0), .int .i64 2]⟩, ⟨nb, 69, false, [(pt sb 0), .int .i64 2]⟩, ⟨sb2, 82, false, [(pt pb 0), .int .i64 2]⟩, ⟨nb2, 69, false, [(pt sb2 0), .int .i64 2]⟩, ⟨z24, 9, true, [.string bl]⟩], [], z24 + 1⟩ ⟨in64 (by omega), trivial⟩ ?_
  refine holds_callX (X := Nat × Nat × List Value) (fun y => z24 + 1 ≤ y.1) (fun y => .slice (some ⟨y.1, 0, none⟩) 1 y.2.1) (fun y => [⟨sb, 82, false, [(pt pb 0), .int .i64 2]⟩, ⟨nb, 69, false, [(pt sb 0), .int .i64 2]⟩, ⟨sb2, 82, false, [(pt pb 0), .int .i64 2]⟩, ⟨nb2, 69, false, [(pt sb2 0), .int .i64 2]⟩, ⟨z24, 9, true, [.string bl]⟩, ⟨y.1, 9, true, (.string bs :: y.2.2)⟩]) (fun y => [(97, .slice (some ⟨y.1, 0, none⟩) 1 y.2.1), (6, .bool false), (14, (pt nb2 0)), (16, .int .i64 (1 + D)), (96, .slice (some ⟨z24, 0, none⟩) 1 1)]) (show _ = some (17, [.slice (some ⟨z24, 0, none⟩) 1 1, .int .i64 1, .int .i64 16], some 97, []) by kernel_rfl) trivial (fun _ => rfl) (fun wx hm => ?_) ?_
  · refine (texts_any _ _ wx (hm.at_ 4 rfl)).mono fun e w' he => ?_
    obtain ⟨y, h1, h2, h3, h4⟩ := he
    rw [hm.size] at h1
    rw [hbs] at h3
    have h5 := hm.add h4 [⟨y.1, 9, true, .string bs :: y.2.2⟩] ⟨h3, trivial⟩ (by simpa using h1) (by simp)
    exact ⟨y, h1, h2, h5⟩
  intro y hy z26 hz26
  replace hz26 : z24 + 1 ≤ z26 := hz26
  obtain ⟨g7, c7, r7⟩ := y
  replace hy : z24 + 1 ≤ g7 := hy
  refine hgo 12 [oh2, ⟨false, 0, [⟨false, 5, 0, 1⟩]⟩, oh0, oh0, oh0, oh0] [6, 14, 16, 17, 101, 103] [(0 : Int) ≤ 0 ∧ 0 < ((1 : Nat) : Int)] [(g7, 0, 1)] [.ops [1, 1, 1, 1, 1, 1, 1, 1, 1, 1, 1, 0] [3, 4, 5, 6, 7, 8, 9], .code [1, 1, 1, 1, 1, 1, 1, 1, 1, 1, 1, 1]] ⟨[(6, .bool false), (14, (pt nb2 0)), (16, .int .i64 (1 + D)), (17, .string bs), (101, (pt nb2 0)), (103, .agg (List.toArray (bla_v6 D)))], (bla_b4 pb sb sb2 nb nb2 bl bs z24 g7 r7), [], z26⟩ ⟨⟨by omega, by omega⟩, trivial⟩ ?_
  have hr0 : gotM (N1) 0 = blankR 0 := hG9 0 (by omega)
  have hap0 : applyM (gotM (N1) 0) (⟨1, 0, (1 + D), 0, 0, 0, 0, 0, noText⟩ : AskM) = (blankR (1 + D), (⟨1, (1 + D), 0, blankR (1 + D)⟩ : SayR)) := by rw [hr0]; exact blank1 (1 + D) (by omega)
  obtain ⟨hB0, hO0, hS0, hG0⟩ := on_serv hA9 hP27pb.ok hq1
  have hs0 : servS (N1) (⟨1, 0, (1 + D), 0, 0, 0, 0, 0, noText⟩ : AskM) = ⟨1, (1 + D), 0, blankR (1 + D)⟩ := by
    rw [hS0]
    show (applyM (gotM (N1) 0) _).2 = _
    rw [hap0]
  have hbe0 : behM (N1) (⟨1, 0, (1 + D), 0, 0, 0, 0, 0, noText⟩ : AskM) = blankR (1 + D) := by
    unfold behM
    show (applyM (gotM (N1) 0) _).1 = _
    rw [hap0]
  have hnB : ∀ b ∈ ((bla_b4 pb sb sb2 nb nb2 bl bs z24 g7 r7) : List Bk), ¬ (b.g = pb ∨ b.g = lb ∨ b.g = mb) := by
    intro b hb hx2
    simp at hb
    rcases hb with rfl | rfl | rfl | rfl | rfl | rfl <;> simp at hx2 <;> omega
  refine holds_callW (w := w) (S' := (fun _ => False)) (Y := Nat) (fun _ => .tuple #[.agg (List.toArray (bla_v7 D)), .bool true]) (fun _ => (bla_b4 pb sb sb2 nb nb2 bl bs z24 g7 r7)) (fun _ W_ => PlatAt 64 80 W_ pb (servPl (N1) (⟨1, 0, (1 + D), 0, 0, 0, 0, 0, noText⟩ : AskM))) (fun _ => [(104, .tuple #[.agg (List.toArray (bla_v7 D)), .bool true]), (6, .bool false), (14, (pt nb2 0)), (16, .int .i64 (1 + D)), (17, .string bs), (101, (pt nb2 0)), (103, .agg (List.toArray (bla_v6 D)))]) (show _ = some (12, [(pt nb2 0), .agg (List.toArray (bla_v6 D))], some 104, []) by kernel_rfl) trivial (fun _ => rfl) (fun wx hm => ?_) (fun _ W28 hX28 hm28 => ?_)
  · refine (serve_pl N1 pb sb2 nb2 2 (⟨1, 0, (1 + D), 0, 0, 0, 0, 0, noText⟩ : AskM) hq1 (by show (0 : Int) < _; omega) (by rw [hA9.n]; show (0 : Int) < _; omega) hA9.off (by have := hA9.acts; omega) (fun h => by have := on_mine hA9 h; omega) (fun h => by have := on_mine hA9 h; omega) (by omega) wx (hP27pb.kept hm.kept (fun xx hx => hnT xx (by have := on_mine hA9 hx; omega))) (hm.at_ 2 rfl) (hm.at_ 3 rfl)).mono fun e w' ⟨h1, h2, h3⟩ => ?_
    rw [hO0, hs0] at h1
    exact ⟨0, h1, h2, (MemOk.back2 hm27 hm).off (fun _ h => h) h3 (fun x h => .inr (by have := on_mine hA9 h; omega)) (fun b hb h => hnB b hb (by have := on_mine hA9 h; omega))⟩
  clear hnT hnB
  have hP28pb := hX28
  have hl_hP28pb := on_lt hB0 hP28pb
  have hgb28_0 : sb < W28.heap.size := (hm28.at_ 0 rfl).lt
  have hgb28_1 : nb < W28.heap.size := (hm28.at_ 1 rfl).lt
  have hgb28_2 : sb2 < W28.heap.size := (hm28.at_ 2 rfl).lt
  have hgb28_3 : nb2 < W28.heap.size := (hm28.at_ 3 rfl).lt
  have hgb28_4 : z24 < W28.heap.size := (hm28.at_ 4 rfl).lt
  have hgb28_5 : g7 < W28.heap.size := (hm28.at_ 5 rfl).lt
  have hnT : ∀ xx, (xx = pb ∨ xx = lb ∨ xx = mb) → ¬ Turned (bla_b4 pb sb sb2 nb nb2 bl bs z24 g7 r7) xx := by
    rintro xx hx2 ⟨b, hb, hr, he⟩
    simp at hb
    rcases hb with rfl | rfl | rfl | rfl | rfl | rfl <;> simp at he hr <;> omega
  refine hgo 15 [oh0, oh0, oh0, oh0, ⟨false, 0, [⟨false, 6, 0, 13⟩]⟩, oh0, oh0, oh0, oh0] [6, 14, 16, 17, 18, 108, 110] [] [(W28.heap.size, 0, 13)] [.ops [1, 1, 1, 1, 1, 1, 1, 1, 1, 1, 1, 1, 0] [3, 4, 5, 6, 7, 8, 9], .code [1, 1, 1, 1, 1, 1, 1, 1, 1, 1, 1, 1, 1]] ⟨[(6, .bool false), (14, (pt nb2 0)), (16, .int .i64 (1 + D)), (17, .string bs), (18, (pt W28.heap.size 0)), (108, (pt nb2 0)), (110, .agg (List.toArray (bla_v8 D)))], (bla_b5 pb sb sb2 nb nb2 W28 D bl bs z24 g7 r7), [], W28.heap.size + 1⟩ trivial ?_
  have hr1 : gotM (servPl (N1) (⟨1, 0, (1 + D), 0, 0, 0, 0, 0, noText⟩ : AskM)) 0 = blankR (1 + D) := by rw [hG0 0 (by omega), hbe0]; rfl
  have hap1 : applyM (gotM (servPl (N1) (⟨1, 0, (1 + D), 0, 0, 0, 0, 0, noText⟩ : AskM)) 0) (⟨2, 0, (1 + D), 0, 0, 0, 0, 0, noText⟩ : AskM) = (blankR (1 + D), (⟨5, (1 + D), 0, blankR 0⟩ : SayR)) := by rw [hr1]; exact blank2 (1 + D)
  obtain ⟨hB1, hO1, hS1, hG1⟩ := on_serv hB0 hP28pb.ok hq2
  have hs1 : servS (servPl (N1) (⟨1, 0, (1 + D), 0, 0, 0, 0, 0, noText⟩ : AskM)) (⟨2, 0, (1 + D), 0, 0, 0, 0, 0, noText⟩ : AskM) = ⟨5, (1 + D), 0, blankR 0⟩ := by
    rw [hS1]
    show (applyM (gotM (servPl (N1) (⟨1, 0, (1 + D), 0, 0, 0, 0, 0, noText⟩ : AskM)) 0) _).2 = _
    rw [hap1]
  have hbe1 : behM (servPl (N1) (⟨1, 0, (1 + D), 0, 0, 0, 0, 0, noText⟩ : AskM)) (⟨2, 0, (1 + D), 0, 0, 0, 0, 0, noText⟩ : AskM) = blankR (1 + D) := by
    unfold behM
    show (applyM (gotM (servPl (N1) (⟨1, 0, (1 + D), 0, 0, 0, 0, 0, noText⟩ : AskM)) 0) _).1 = _
    rw [hap1]
  have hnB : ∀ b ∈ ((bla_b5 pb sb sb2 nb nb2 W28 D bl bs z24 g7 r7) : List Bk), ¬ (b.g = pb ∨ b.g = lb ∨ b.g = mb) := by
    intro b hb hx2
    simp at hb
    rcases hb with rfl | rfl | rfl | rfl | rfl | rfl | rfl <;> simp at hx2 <;> omega
  refine holds_callW (w := w) (S' := (fun _ => False)) (Y := Nat) (fun _ => .tuple #[.agg (List.toArray (bla_v9 D)), .bool true]) (fun _ => (bla_b5 pb sb sb2 nb nb2 W28 D bl bs z24 g7 r7)) (fun _ W_ => PlatAt 64 80 W_ pb (servPl (servPl (N1) (⟨1, 0, (1 + D), 0, 0, 0, 0, 0, noText⟩ : AskM)) (⟨2, 0, (1 + D), 0, 0, 0, 0, 0, noText⟩ : AskM))) (fun _ => [(111, .tuple #[.agg (List.toArray (bla_v9 D)), .bool true]), (6, .bool false), (14, (pt nb2 0)), (16, .int .i64 (1 + D)), (17, .string bs), (18, (pt W28.heap.size 0)), (108, (pt nb2 0)), (110, .agg (List.toArray (bla_v8 D)))]) (show _ = some (12, [(pt nb2 0), .agg (List.toArray (bla_v8 D))], some 111, []) by kernel_rfl) trivial (fun _ => rfl) (fun wx hm => ?_) (fun _ W29 hX29 hm29 => ?_)
  · refine (serve_pl (servPl (N1) (⟨1, 0, (1 + D), 0, 0, 0, 0, 0, noText⟩ : AskM)) pb sb2 nb2 2 (⟨2, 0, (1 + D), 0, 0, 0, 0, 0, noText⟩ : AskM) hq2 (by show (0 : Int) < _; omega) (by rw [hB0.n]; show (0 : Int) < _; omega) hB0.off (by have := hB0.acts; omega) (fun h => by have := on_mine hB0 h; omega) (fun h => by have := on_mine hB0 h; omega) (by omega) wx (hP28pb.kept hm.kept (fun xx hx => hnT xx (by have := on_mine hB0 hx; omega))) (hm.at_ 2 rfl) (hm.at_ 3 rfl)).mono fun e w' ⟨h1, h2, h3⟩ => ?_
    rw [hO1, hs1] at h1
    exact ⟨0, h1, h2, (MemOk.back2 hm28 hm).off (fun _ h => h) h3 (fun x h => .inr (by have := on_mine hB0 h; omega)) (fun b hb h => hnB b hb (by have := on_mine hB0 h; omega))⟩
  clear hnT hnB
  have hP29pb := hX29
  have hl_hP29pb := on_lt hB1 hP29pb
  have hgb29_0 : sb < W29.heap.size := (hm29.at_ 0 rfl).lt
  have hgb29_1 : nb < W29.heap.size := (hm29.at_ 1 rfl).lt
  have hgb29_2 : sb2 < W29.heap.size := (hm29.at_ 2 rfl).lt
  have hgb29_3 : nb2 < W29.heap.size := (hm29.at_ 3 rfl).lt
  have hgb29_4 : z24 < W29.heap.size := (hm29.at_ 4 rfl).lt
  have hgb29_5 : g7 < W29.heap.size := (hm29.at_ 5 rfl).lt
  have hgb29_6 : W28.heap.size < W29.heap.size := (hm29.at_ 6 rfl).lt
  have hnT : ∀ xx, (xx = pb ∨ xx = lb ∨ xx = mb) → ¬ Turned (bla_b5 pb sb sb2 nb nb2 W28 D bl bs z24 g7 r7) xx := by
    rintro xx hx2 ⟨b, hb, hr, he⟩
    simp at hb
    rcases hb with rfl | rfl | rfl | rfl | rfl | rfl | rfl <;> simp at he hr <;> omega
  refine hgo 16 [oh0, oh0, oh0, oh0, ⟨false, 0, [⟨false, 7, 0, 13⟩]⟩, oh0, oh0, oh0, oh0, oh0] [6, 14, 16, 17, 18, 20, 115, 118] [] [(W29.heap.size, 0, 13)] [.ops [1, 1, 1, 1, 1, 1, 1, 1, 1, 1, 1, 1, 1, 0] [4, 5, 6, 7, 8, 9, 10], .code [1, 1, 1, 1, 1, 1, 1, 1, 1, 1, 1, 1, 1, 1]] ⟨[(6, .bool false), (14, (pt nb2 0)), (16, .int .i64 (1 + D)), (17, .string bs), (18, (pt W28.heap.size 0)), (20, (pt W29.heap.size 0)), (115, (pt nb2 0)), (118, .agg (List.toArray (bla_v10 D bs)))], (bla_b6 pb sb sb2 nb nb2 W28 W29 D bl bs z24 g7 r7), [], W29.heap.size + 1⟩ trivial ?_
  have hr2 : gotM (servPl (servPl (N1) (⟨1, 0, (1 + D), 0, 0, 0, 0, 0, noText⟩ : AskM)) (⟨2, 0, (1 + D), 0, 0, 0, 0, 0, noText⟩ : AskM)) 0 = blankR (1 + D) := by rw [hG1 0 (by omega), hbe1]; rfl
  have hap2 : applyM (gotM (servPl (servPl (N1) (⟨1, 0, (1 + D), 0, 0, 0, 0, 0, noText⟩ : AskM)) (⟨2, 0, (1 + D), 0, 0, 0, 0, 0, noText⟩ : AskM)) 0) (⟨7, 0, (1 + D), 1, 0, 0, 0, 0, bs⟩ : AskM) = (⟨true, (1 + D), (1 + D), 1, bs, false, 0, 0, 0, noText⟩, (⟨1, (1 + D), 0, blankR 0⟩ : SayR)) := by rw [hr2]; exact blank3 (1 + D) bs
  obtain ⟨hB2, hO2, hS2, hG2⟩ := on_serv hB1 hP29pb.ok hq3
  have hs2 : servS (servPl (servPl (N1) (⟨1, 0, (1 + D), 0, 0, 0, 0, 0, noText⟩ : AskM)) (⟨2, 0, (1 + D), 0, 0, 0, 0, 0, noText⟩ : AskM)) (⟨7, 0, (1 + D), 1, 0, 0, 0, 0, bs⟩ : AskM) = ⟨1, (1 + D), 0, blankR 0⟩ := by
    rw [hS2]
    show (applyM (gotM (servPl (servPl (N1) (⟨1, 0, (1 + D), 0, 0, 0, 0, 0, noText⟩ : AskM)) (⟨2, 0, (1 + D), 0, 0, 0, 0, 0, noText⟩ : AskM)) 0) _).2 = _
    rw [hap2]
  have hbe2 : behM (servPl (servPl (N1) (⟨1, 0, (1 + D), 0, 0, 0, 0, 0, noText⟩ : AskM)) (⟨2, 0, (1 + D), 0, 0, 0, 0, 0, noText⟩ : AskM)) (⟨7, 0, (1 + D), 1, 0, 0, 0, 0, bs⟩ : AskM) = ⟨true, (1 + D), (1 + D), 1, bs, false, 0, 0, 0, noText⟩ := by
    unfold behM
    show (applyM (gotM (servPl (servPl (N1) (⟨1, 0, (1 + D), 0, 0, 0, 0, 0, noText⟩ : AskM)) (⟨2, 0, (1 + D), 0, 0, 0, 0, 0, noText⟩ : AskM)) 0) _).1 = _
    rw [hap2]
  have hnB : ∀ b ∈ ((bla_b6 pb sb sb2 nb nb2 W28 W29 D bl bs z24 g7 r7) : List Bk), ¬ (b.g = pb ∨ b.g = lb ∨ b.g = mb) := by
    intro b hb hx2
    simp at hb
    rcases hb with rfl | rfl | rfl | rfl | rfl | rfl | rfl | rfl <;> simp at hx2 <;> omega
  refine holds_callW (w := w) (S' := (fun _ => False)) (Y := Nat) (fun _ => .tuple #[.agg (List.toArray (bla_v11 D)), .bool true]) (fun _ => (bla_b6 pb sb sb2 nb nb2 W28 W29 D bl bs z24 g7 r7)) (fun _ W_ => PlatAt 64 80 W_ pb (servPl (servPl (servPl (N1) (⟨1, 0, (1 + D), 0, 0, 0, 0, 0, noText⟩ : AskM)) (⟨2, 0, (1 + D), 0, 0, 0, 0, 0, noText⟩ : AskM)) (⟨7, 0, (1 + D), 1, 0, 0, 0, 0, bs⟩ : AskM))) (fun _ => [(119, .tuple #[.agg (List.toArray (bla_v11 D)), .bool true]), (6, .bool false), (14, (pt nb2 0)), (16, .int .i64 (1 + D)), (17, .string bs), (18, (pt W28.heap.size 0)), (20, (pt W29.heap.size 0)), (115, (pt nb2 0)), (118, .agg (List.toArray (bla_v10 D bs)))]) (show _ = some (12, [(pt nb2 0), .agg (List.toArray (bla_v10 D bs))], some 119, []) by kernel_rfl) trivial (fun _ => rfl) (fun wx hm => ?_) (fun _ W30 hX30 hm30 => ?_)
  · refine (serve_pl (servPl (servPl (N1) (⟨1, 0, (1 + D), 0, 0, 0, 0, 0, noText⟩ : AskM)) (⟨2, 0, (1 + D), 0, 0, 0, 0, 0, noText⟩ : AskM)) pb sb2 nb2 2 (⟨7, 0, (1 + D), 1, 0, 0, 0, 0, bs⟩ : AskM) hq3 (by show (0 : Int) < _; omega) (by rw [hB1.n]; show (0 : Int) < _; omega) hB1.off (by have := hB1.acts; omega) (fun h => by have := on_mine hB1 h; omega) (fun h => by have := on_mine hB1 h; omega) (by omega) wx (hP29pb.kept hm.kept (fun xx hx => hnT xx (by have := on_mine hB1 hx; omega))) (hm.at_ 2 rfl) (hm.at_ 3 rfl)).mono fun e w' ⟨h1, h2, h3⟩ => ?_
    rw [hO2, hs2] at h1
    exact ⟨0, h1, h2, (MemOk.back2 hm29 hm).off (fun _ h => h) h3 (fun x h => .inr (by have := on_mine hB1 h; omega)) (fun b hb h => hnB b hb (by have := on_mine hB1 h; omega))⟩
  clear hnT hnB
  have hP30pb := hX30
  have hl_hP30pb := on_lt hB2 hP30pb
  have hgb30_0 : sb < W30.heap.size := (hm30.at_ 0 rfl).lt
  have hgb30_1 : nb < W30.heap.size := (hm30.at_ 1 rfl).lt
  have hgb30_2 : sb2 < W30.heap.size := (hm30.at_ 2 rfl).lt
  have hgb30_3 : nb2 < W30.heap.size := (hm30.at_ 3 rfl).lt
  have hgb30_4 : z24 < W30.heap.size := (hm30.at_ 4 rfl).lt
  have hgb30_5 : g7 < W30.heap.size := (hm30.at_ 5 rfl).lt
  have hgb30_6 : W28.heap.size < W30.heap.size := (hm30.at_ 6 rfl).lt
  have hgb30_7 : W29.heap.size < W30.heap.size := (hm30.at_ 7 rfl).lt
  have hnT : ∀ xx, (xx = pb ∨ xx = lb ∨ xx = mb) → ¬ Turned (bla_b6 pb sb sb2 nb nb2 W28 W29 D bl bs z24 g7 r7) xx := by
    rintro xx hx2 ⟨b, hb, hr, he⟩
    simp at hb
    rcases hb with rfl | rfl | rfl | rfl | rfl | rfl | rfl | rfl <;> simp at he hr <;> omega
  refine hgo 15 [oh0, oh0, oh0, oh0, ⟨false, 0, [⟨false, 8, 0, 13⟩]⟩, oh0, oh0, oh0, oh0] [6, 14, 16, 17, 18, 20, 22, 123, 125] [] [(W30.heap.size, 0, 13)] [.ops [1, 1, 1, 1, 1, 1, 1, 1, 1, 1, 1, 1, 1, 1, 0] [3, 4, 5, 6, 7, 8, 9], .code [1, 1, 1, 1, 1, 1, 1, 1, 1, 1, 1, 1, 1, 1, 1]] ⟨[(6, .bool false), (14, (pt nb2 0)), (16, .int .i64 (1 + D)), (17, .string bs), (18, (pt W28.heap.size 0)), (20, (pt W29.heap.size 0)), (22, (pt W30.heap.size 0)), (123, (pt nb2 0)), (125, .agg (List.toArray (bla_v8 D)))], (bla_b7 pb sb sb2 nb nb2 W28 W29 D bl bs z24 g7 r7 W30), [], W30.heap.size + 1⟩ trivial ?_
  have hr3 : gotM (servPl (servPl (servPl (N1) (⟨1, 0, (1 + D), 0, 0, 0, 0, 0, noText⟩ : AskM)) (⟨2, 0, (1 + D), 0, 0, 0, 0, 0, noText⟩ : AskM)) (⟨7, 0, (1 + D), 1, 0, 0, 0, 0, bs⟩ : AskM)) 0 = ⟨true, (1 + D), (1 + D), 1, bs, false, 0, 0, 0, noText⟩ := by rw [hG2 0 (by omega), hbe2]; rfl
  have hap3 : applyM (gotM (servPl (servPl (servPl (N1) (⟨1, 0, (1 + D), 0, 0, 0, 0, 0, noText⟩ : AskM)) (⟨2, 0, (1 + D), 0, 0, 0, 0, 0, noText⟩ : AskM)) (⟨7, 0, (1 + D), 1, 0, 0, 0, 0, bs⟩ : AskM)) 0) (⟨2, 0, (1 + D), 0, 0, 0, 0, 0, noText⟩ : AskM) = (⟨true, (1 + D), (1 + D), 1, bs, false, 0, 0, 0, noText⟩, (⟨1, (1 + D), 0, ⟨true, (1 + D), (1 + D), 1, bs, false, 0, 0, 0, noText⟩⟩ : SayR)) := by rw [hr3]; exact blank4 (1 + D) bs
  obtain ⟨hB3, hO3, hS3, hG3⟩ := on_serv hB2 hP30pb.ok hq2
  have hs3 : servS (servPl (servPl (servPl (N1) (⟨1, 0, (1 + D), 0, 0, 0, 0, 0, noText⟩ : AskM)) (⟨2, 0, (1 + D), 0, 0, 0, 0, 0, noText⟩ : AskM)) (⟨7, 0, (1 + D), 1, 0, 0, 0, 0, bs⟩ : AskM)) (⟨2, 0, (1 + D), 0, 0, 0, 0, 0, noText⟩ : AskM) = ⟨1, (1 + D), 0, ⟨true, (1 + D), (1 + D), 1, bs, false, 0, 0, 0, noText⟩⟩ := by
    rw [hS3]
    show (applyM (gotM (servPl (servPl (servPl (N1) (⟨1, 0, (1 + D), 0, 0, 0, 0, 0, noText⟩ : AskM)) (⟨2, 0, (1 + D), 0, 0, 0, 0, 0, noText⟩ : AskM)) (⟨7, 0, (1 + D), 1, 0, 0, 0, 0, bs⟩ : AskM)) 0) _).2 = _
    rw [hap3]
  have hbe3 : behM (servPl (servPl (servPl (N1) (⟨1, 0, (1 + D), 0, 0, 0, 0, 0, noText⟩ : AskM)) (⟨2, 0, (1 + D), 0, 0, 0, 0, 0, noText⟩ : AskM)) (⟨7, 0, (1 + D), 1, 0, 0, 0, 0, bs⟩ : AskM)) (⟨2, 0, (1 + D), 0, 0, 0, 0, 0, noText⟩ : AskM) = ⟨true, (1 + D), (1 + D), 1, bs, false, 0, 0, 0, noText⟩ := by
    unfold behM
    show (applyM (gotM (servPl (servPl (servPl (N1) (⟨1, 0, (1 + D), 0, 0, 0, 0, 0, noText⟩ : AskM)) (⟨2, 0, (1 + D), 0, 0, 0, 0, 0, noText⟩ : AskM)) (⟨7, 0, (1 + D), 1, 0, 0, 0, 0, bs⟩ : AskM)) 0) _).1 = _
    rw [hap3]
  have hnB : ∀ b ∈ ((bla_b7 pb sb sb2 nb nb2 W28 W29 D bl bs z24 g7 r7 W30) : List Bk), ¬ (b.g = pb ∨ b.g = lb ∨ b.g = mb) := by
    intro b hb hx2
    simp at hb
    rcases hb with rfl | rfl | rfl | rfl | rfl | rfl | rfl | rfl | rfl <;> simp at hx2 <;> omega
  refine holds_callW (w := w) (S' := (fun _ => False)) (Y := Nat) (fun _ => .tuple #[.agg (List.toArray (bla_v12 D bs)), .bool true]) (fun _ => (bla_b7 pb sb sb2 nb nb2 W28 W29 D bl bs z24 g7 r7 W30)) (fun _ W_ => PlatAt 64 80 W_ pb (servPl (servPl (servPl (servPl (N1) (⟨1, 0, (1 + D), 0, 0, 0, 0, 0, noText⟩ : AskM)) (⟨2, 0, (1 + D), 0, 0, 0, 0, 0, noText⟩ : AskM)) (⟨7, 0, (1 + D), 1, 0, 0, 0, 0, bs⟩ : AskM)) (⟨2, 0, (1 + D), 0, 0, 0, 0, 0, noText⟩ : AskM))) (fun _ => [(126, .tuple #[.agg (List.toArray (bla_v12 D bs)), .bool true]), (6, .bool false), (14, (pt nb2 0)), (16, .int .i64 (1 + D)), (17, .string bs), (18, (pt W28.heap.size 0)), (20, (pt W29.heap.size 0)), (22, (pt W30.heap.size 0)), (123, (pt nb2 0)), (125, .agg (List.toArray (bla_v8 D)))]) (show _ = some (12, [(pt nb2 0), .agg (List.toArray (bla_v8 D))], some 126, []) by kernel_rfl) trivial (fun _ => rfl) (fun wx hm => ?_) (fun _ W31 hX31 hm31 => ?_)
  · refine (serve_pl (servPl (servPl (servPl (N1) (⟨1, 0, (1 + D), 0, 0, 0, 0, 0, noText⟩ : AskM)) (⟨2, 0, (1 + D), 0, 0, 0, 0, 0, noText⟩ : AskM)) (⟨7, 0, (1 + D), 1, 0, 0, 0, 0, bs⟩ : AskM)) pb sb2 nb2 2 (⟨2, 0, (1 + D), 0, 0, 0, 0, 0, noText⟩ : AskM) hq2 (by show (0 : Int) < _; omega) (by rw [hB2.n]; show (0 : Int) < _; omega) hB2.off (by have := hB2.acts; omega) (fun h => by have := on_mine hB2 h; omega) (fun h => by have := on_mine hB2 h; omega) (by omega) wx (hP30pb.kept hm.kept (fun xx hx => hnT xx (by have := on_mine hB2 hx; omega))) (hm.at_ 2 rfl) (hm.at_ 3 rfl)).mono fun e w' ⟨h1, h2, h3⟩ => ?_
    rw [hO3, hs3] at h1
    exact ⟨0, h1, h2, (MemOk.back2 hm30 hm).off (fun _ h => h) h3 (fun x h => .inr (by have := on_mine hB2 h; omega)) (fun b hb h => hnB b hb (by have := on_mine hB2 h; omega))⟩
  clear hnT hnB
  have hP31pb := hX31
  have hl_hP31pb := on_lt hB3 hP31pb
  have hgb31_0 : sb < W31.heap.size := (hm31.at_ 0 rfl).lt
  have hgb31_1 : nb < W31.heap.size := (hm31.at_ 1 rfl).lt
  have hgb31_2 : sb2 < W31.heap.size := (hm31.at_ 2 rfl).lt
  have hgb31_3 : nb2 < W31.heap.size := (hm31.at_ 3 rfl).lt
  have hgb31_4 : z24 < W31.heap.size := (hm31.at_ 4 rfl).lt
  have hgb31_5 : g7 < W31.heap.size := (hm31.at_ 5 rfl).lt
  have hgb31_6 : W28.heap.size < W31.heap.size := (hm31.at_ 6 rfl).lt
  have hgb31_7 : W29.heap.size < W31.heap.size := (hm31.at_ 7 rfl).lt
  have hgb31_8 : W30.heap.size < W31.heap.size := (hm31.at_ 8 rfl).lt
  have hnT : ∀ xx, (xx = pb ∨ xx = lb ∨ xx = mb) → ¬ Turned (bla_b7 pb sb sb2 nb nb2 W28 W29 D bl bs z24 g7 r7 W30) xx := by
    rintro xx hx2 ⟨b, hb, hr, he⟩
    simp at hb
    rcases hb with rfl | rfl | rfl | rfl | rfl | rfl | rfl | rfl | rfl <;> simp at he hr <;> omega
  refine hgo 13 [oh0, oh0, oh0, oh0, ⟨false, 0, [⟨false, 9, 0, 13⟩]⟩, oh0, oh0] [6, 16, 17, 18, 20, 22, 24, 130] [] [(W31.heap.size, 0, 13)] [.ops [1, 1, 1, 1, 1, 1, 1, 1, 1, 1, 1, 1, 1, 1, 1, 0] [1, 2, 3, 4, 5, 6, 7], .code [1, 1, 1, 1, 1, 1, 1, 1, 1, 1, 1, 1, 1, 1, 1, 1]] ⟨[(6, .bool false), (16, .int .i64 (1 + D)), (17, .string bs), (18, (pt W28.heap.size 0)), (20, (pt W29.heap.size 0)), (22, (pt W30.heap.size 0)), (24, (pt W31.heap.size 0)), (130, (pt nb2 0))], [⟨sb, 82, false, [(pt pb 0), .int .i64 2]⟩, ⟨nb, 69, false, [(pt sb 0), .int .i64 2]⟩, ⟨sb2, 82, false, [(pt pb 0), .int .i64 2]⟩, ⟨nb2, 69, false, [(pt sb2 0), .int .i64 2]⟩, ⟨z24, 9, true, [.string bl]⟩, ⟨g7, 9, true, (.string bs :: r7)⟩, ⟨W28.heap.size, 45, true, (bla_v7 D)⟩, ⟨W29.heap.size, 45, true, (bla_v9 D)⟩, ⟨W30.heap.size, 45, true, (bla_v11 D)⟩, ⟨W31.heap.size, 45, true, (bla_v12 D bs)⟩], [], W31.heap.size + 1⟩ trivial ?_
  have hr9 : gotM (servPl (servPl (servPl (servPl (N1) (⟨1, 0, (1 + D), 0, 0, 0, 0, 0, noText⟩ : AskM)) (⟨2, 0, (1 + D), 0, 0, 0, 0, 0, noText⟩ : AskM)) (⟨7, 0, (1 + D), 1, 0, 0, 0, 0, bs⟩ : AskM)) (⟨2, 0, (1 + D), 0, 0, 0, 0, 0, noText⟩ : AskM)) 1 = blankR 0 := by
    rw [hG3 1 (by omega), if_neg (show ¬ (1 : Int) = 0 by decide), hG2 1 (by omega), if_neg (show ¬ (1 : Int) = 0 by decide), hG1 1 (by omega), if_neg (show ¬ (1 : Int) = 0 by decide), hG0 1 (by omega), if_neg (show ¬ (1 : Int) = 0 by decide)]
    exact hG9 1 (by omega)
  refine hcp (.tuple #[.agg (List.toArray (bla_v13)), .bool true]) 15 [(pt nb2 0), .int .i64 1] (some 131) [] trivial rfl (fun wx hm => by have h := record_pl (servPl (servPl (servPl (servPl (N1) (⟨1, 0, (1 + D), 0, 0, 0, 0, 0, noText⟩ : AskM)) (⟨2, 0, (1 + D), 0, 0, 0, 0, 0, noText⟩ : AskM)) (⟨7, 0, (1 + D), 1, 0, 0, 0, 0, bs⟩ : AskM)) (⟨2, 0, (1 + D), 0, 0, 0, 0, 0, noText⟩ : AskM)) pb sb2 nb2 2 1 (by omega) (by rw [hB3.n]; omega) hB3.off (by omega) wx (hP31pb.kept hm.kept (fun xx hx => hnT xx (by have := on_mine hB3 hx; omega))) (hm.at_ 2 rfl) (hm.at_ 3 rfl); rw [hr9] at h; exact h) fun z36 hz36 => ?_
  replace hz36 : W31.heap.size + 1 ≤ z36 := hz36
  refine hgo 54 [oh0, oh0, oh0, oh0, ⟨false, 0, [⟨false, 10, 0, 10⟩]⟩, oh0, oh0, ⟨false, 0, [⟨false, 6, 0, 1⟩]⟩, oh0, oh0, oh1, ⟨true, 0, [⟨false, 6, 3, 10⟩]⟩, oh1, oh1, ⟨true, 1, []⟩, oh3, oh0, oh1, ⟨true, 0, [⟨false, 7, 0, 1⟩]⟩, oh1, oh3, oh0, oh1, ⟨true, 0, [⟨false, 8, 0, 1⟩]⟩, oh1, oh3, oh0, oh1, ⟨true, 0, [⟨false, 9, 0, 1⟩]⟩, oh1, oh3, oh0, oh1, oh1, ⟨true, 0, [⟨false, 9, 7, 1⟩]⟩, oh1, oh1, oh3, oh0, oh1, oh3, oh0, ⟨true, 0, [⟨false, 10, 0, 10⟩]⟩, oh1, ⟨true, 1, []⟩, oh3, oh0] [6] [true = true, true = true, true = true, true = true, true = true, True, true = true, ((((1 + D) : Int) == (1 + D)) && true) = true, ((((1 + D) : Int) == (1 + D)) && true) = true, ((((1 + D) : Int) == (1 + D)) && true) = true, ((((1 + D) : Int) == (1 + D)) && true) = true, true = true, true = true, true = true, true = true, true = true, true = true, true = true, true = true, true = true, true = true, true = true, true = true, true = true, true = true, (ByteArray.toList bs == ByteArray.toList bs) = true, (ByteArray.toList bs == ByteArray.toList bs) = true, true = true, true = true, true = true, True, true = true] [(z36, 0, 10), (W28.heap.size, 0, 1), (W28.heap.size, 3, 10), (W29.heap.size, 0, 1), (W30.heap.size, 0, 1), (W31.heap.size, 0, 1), (W31.heap.size, 7, 1), (z36, 0, 10)] [.code [1, 1, 1, 1, 1, 1, 1, 1, 1, 1, 1, 1, 1, 1, 1, 1, 1]] ⟨[(6, .bool true)], [⟨sb, 82, false, [(pt pb 0), .int .i64 2]⟩, ⟨nb, 69, false, [(pt sb 0), .int .i64 2]⟩, ⟨sb2, 82, false, [(pt pb 0), .int .i64 2]⟩, ⟨nb2, 69, false, [(pt sb2 0), .int .i64 2]⟩, ⟨z24, 9, true, [.string bl]⟩, ⟨g7, 9, true, (.string bs :: r7)⟩, ⟨W28.heap.size, 45, true, (bla_v7 D)⟩, ⟨W29.heap.size, 45, true, (bla_v9 D)⟩, ⟨W30.heap.size, 45, true, (bla_v11 D)⟩, ⟨W31.heap.size, 45, true, (bla_v12 D bs)⟩, ⟨z36, 43, true, (bla_v13)⟩], [], z36 + 1⟩ ⟨rfl, rfl, rfl, rfl, rfl, trivial, rfl, by simp, by simp, by simp, by simp, rfl, rfl, rfl, rfl, rfl, rfl, rfl, rfl, rfl, rfl, rfl, rfl, rfl, rfl, by simp, by simp, rfl, rfl, rfl, trivial, rfl, trivial⟩ ?_
  refine hrt [] [.bool true] [] ?_
  intro wx hm
  exact ⟨ret_bool (by simp), (MemOk.back2 hm31 hm).kept⟩

end Go.Proofs.Ytfiheghjhgnblaa
