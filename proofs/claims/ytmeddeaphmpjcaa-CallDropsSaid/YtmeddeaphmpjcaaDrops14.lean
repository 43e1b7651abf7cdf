/- CallDrops, walked. -/
import Derived.Test.YtmeddeaphmpjcaaAwake14
import Derived.Test.YtmeddeaphmpjcaaNumsM
import Derived.Test.YtmeddeaphmpjcaaPick14
import Derived.Test.YtmeddeaphmpjcaaEngT
namespace Go.Proofs.Ytmeddeaphmpjcaa
open Go.RowKit

def drp_v1 : List Value := [.int .i64 0, .int .i64 0, .int .i64 0, .int .i64 0, .int .i64 0, .int .i64 0, .int .i64 0, .int .i64 0, .string ⟨#[]⟩]
def drp_v2 : List Value := [.int .i64 8, .int .i64 0, .int .i64 0, .int .i64 0, .int .i64 0, .int .i64 0, .int .i64 0, .int .i64 0, .string ⟨#[]⟩]
def drp_v3 (k : Nat) (p : Int) : List Value := [.int .i64 200, .int .i64 p, .int .i64 (7 + (k : Int) + 1), .bool false, .int .i64 8, .int .i64 0, .int .i64 0, .int .i64 0, .int .i64 0, .int .i64 0, .int .i64 0, .int .i64 0, .string ⟨#[]⟩, .int .i64 0, .int .i64 0, .int .i64 0, .bool false, .int .i64 0, .int .i64 0, .int .i64 0, .string ⟨#[]⟩, .bool false, .int .i64 0, .int .i64 0, .int .i64 0, .string ⟨#[]⟩]
def drp_v4 : List Value := [.int .i64 0, .int .i64 0, .int .i64 0, .bool false, .int .i64 0, .int .i64 0, .int .i64 0, .int .i64 0, .int .i64 0, .int .i64 0, .int .i64 0, .int .i64 0, .string ⟨#[]⟩, .int .i64 0, .int .i64 0, .int .i64 0, .bool false, .int .i64 0, .int .i64 0, .int .i64 0, .string ⟨#[]⟩, .bool false, .int .i64 0, .int .i64 0, .int .i64 0, .string ⟨#[]⟩]
def drp_v5 (k : Nat) (p : Int) (i0 : Nat) : List Value := [.int .i64 200, .int .i64 p, .int .i64 (7 + (i0 : Int) + (k : Int) + 1), .bool false, .int .i64 8, .int .i64 0, .int .i64 0, .int .i64 0, .int .i64 0, .int .i64 0, .int .i64 0, .int .i64 0, .string ⟨#[]⟩, .int .i64 0, .int .i64 0, .int .i64 0, .bool false, .int .i64 0, .int .i64 0, .int .i64 0, .string ⟨#[]⟩, .bool false, .int .i64 0, .int .i64 0, .int .i64 0, .string ⟨#[]⟩]
def drp_Q (w : World) : Exit → Act → World → Prop := bodyPost Try.prog Try.f5 (RetK (.bool true) w)
def drp_n1 : List Nat := [1, 1, 1, 1, 1, 0, 1, 0, 0, 1, 1]
def drp_n2 : List Nat := [1, 1, 1, 1, 1, 1, 1, 1, 0, 1, 0, 0, 1, 1]
def drp_n3 : List Nat := [1, 1, 1, 1, 1, 1, 1, 1, 1, 0, 1, 0, 0, 1, 0, 0, 0]
def drp_n4 : List Nat := [1, 1, 1, 1, 1, 1, 1, 1, 1, 0, 1, 0, 0, 1, 0, 0, 1]
def drp_n5 : List Nat := [1, 1, 1, 1, 1, 1, 1, 1, 1, 0, 1, 0, 0, 1, 1]
def drp_n6 : List Nat := [1, 1, 1, 1, 1, 1, 1, 1, 1, 0, 1, 0]
def drp_n7 : List Nat := [1, 1, 1, 1, 1, 1, 1, 1, 1, 1, 0]
def drp_n8 : List Nat := [1, 1, 1, 1, 1, 1, 1, 1, 1, 1, 1]
def drp_n9 : List Nat := [1, 1, 1, 1, 1, 1, 1, 1, 1, 1]
def drp_n10 : List Nat := [1, 1, 1, 1, 1, 1, 1, 1, 1]
def drp_n11 : Array Bool := #[true, true, true, true, true, true, true, true, true, true, true, true, true, true, false, false, false, false, false]
def drp_n12 : Array Bool := #[true, true, true, true, true, true, true, true, true, true, true, true, true, true, false, false, true, false, false]
def drp_n13 : Array Bool := #[true, true, true, true, true, true, true, true, true, true, true, true, true, true, true, true, true, true, true]
def drp_n14 : List OH := [oh0, oh0, oh0, oh0, oh0, oh0, oh0, ⟨false, 3, []⟩, oh0, oh0]
def drp_n15 : List OH := [oh0, oh0, oh0, oh0, oh0, oh1, oh1, oh3, oh1, oh0, oh0, oh0, oh2, ⟨false, 0, [⟨true, 0, 0, 1⟩]⟩]
def DropsI1 (A : Option Addr) (n : Nat) (cp : Nat) (B : Option Addr) (nb : Nat) (bp : Nat) (cb : Nat) (w : World)  (m : Nat) (st : St) (W0 : World) : Prop :=
  ∃ (k : Nat) (L : List OneM) (A0 : Option Addr) (c0 : Nat) (z : Nat), m + k = 8 ∧ k ≤ n ∧ L.length = k ∧ (∀ o ∈ L, 7 < o.id ∧ o.id ≤ 7 + (k : Int) ∧ o.asked = 0 ∧ o.sent = 0) ∧ PartyAt 59 61 W0 w.heap.size cb (⟨200, 7 + (k : Int), L⟩) ∧ OwnR W0 w.heap.size 37 26 A0 k c0 (lettersC 200 L) ∧ st = ⟨[(0, .slice A n cp), (1, .slice B nb bp), (4, .bool false), (6, (pt cb 0)), (7, .slice A0 k c0), (8, .int .i64 (k : Int))], [], [], z⟩
def DropsI2 (A88 : Option Addr) (c88 : Nat) (B : Option Addr) (nb : Nat) (bp : Nat) (cb : Nat) (w : World) (i0 : Nat) (L0 : List OneM)  (m : Nat) (st : St) (W0 : World) : Prop :=
  ∃ (k : Nat) (L : List OneM) (A0 : Option Addr) (c0 : Nat) (z : Nat), m + k = 8 ∧ k ≤ nb ∧ L.length = k ∧ (∀ o ∈ L, 7 + (i0 : Int) < o.id ∧ o.id ≤ 7 + (i0 : Int) + (k : Int) ∧ o.asked = 50 ∧ o.sent = 50) ∧ PartyAt 59 61 W0 w.heap.size cb (⟨200, 7 + (i0 : Int) + (k : Int), L⟩) ∧ OwnR W0 w.heap.size 37 26 A88 i0 c88 (lettersC 200 L0) ∧ OwnR W0 w.heap.size 37 26 A0 k c0 (lettersC 200 L) ∧ (∀ yy, ownS A88 yy → ¬ ownS A0 yy) ∧ st = ⟨[(1, .slice B nb bp), (4, .bool false), (6, (pt cb 0)), (7, .slice A88 i0 c88), (11, .slice A0 k c0), (12, .int .i64 (k : Int))], [], [], z⟩
def DropsI3 (A88 : Option Addr) (A89 : Option Addr) (c88 : Nat) (c89 : Nat) (cb : Nat) (w : World) (i0 : Nat) (j0 : Nat) (L0 : List OneM) (LB : List OneM)  (m : Nat) (st : St) (W0 : World) : Prop :=
  ∃ (k : Nat) (z : Nat), m + k = i0 ∧ PartyAt 59 61 W0 w.heap.size cb (⟨200, 7 + (i0 : Int) + (j0 : Int), LB⟩) ∧ OwnR W0 w.heap.size 37 26 A88 i0 c88 (lettersC 200 L0) ∧ OwnR W0 w.heap.size 37 26 A89 j0 c89 (lettersC 200 LB) ∧ (∀ yy, ownS A88 yy → ¬ ownS A89 yy) ∧ st = ⟨[(4, .bool false), (6, (pt cb 0)), (7, .slice A88 i0 c88), (11, .slice A89 j0 c89), (15, .int .i64 (k : Int))], [], [], z⟩
theorem drp_q27 (A89 : Option Addr) (c88 : Nat) (c89 : Nat) (cb : Nat) (k : Nat) (o : OneM) (W60 : World) (i0 : Nat) (j0 : Nat) (g1 : Nat) : Out.prune [4, 6, 7, 11, 15, 98] (qList Try.prog 138 W60 (Turned []) ((opsOf (getCode (bodyOf Try.f5) drp_n3)).toList.take 14) ⟨[(4, .bool false), (6, (pt cb 0)), (7, .slice (some ⟨g1, 0, none⟩) i0 c88), (11, .slice A89 j0 c89), (15, .int .i64 (k : Int))], [], [⟨g1, 0 + k * 26, [.int .i64 200, .int .i64 o.to, .int .i64 o.id]⟩], W60.heap.size⟩ [.op oh0, .op oh0, .op oh0, .op oh2, .op oh0, .op ⟨false, 0, [⟨true, 0, 1, 1⟩]⟩, .op oh0, .op oh0, .op oh2, .op oh0, .op ⟨false, 0, [⟨true, 0, 2, 1⟩]⟩, .op oh0, .call (.tuple #[.agg (List.toArray (drp_v1)), .bool false]), .op oh0]) = some ⟨[(0 : Int) ≤ (k : Int) ∧ (k : Int) < ((i0 : Nat) : Int), (0 : Int) ≤ (k : Int) ∧ (k : Int) < ((i0 : Nat) : Int), ∀ w', MemC W60 (Turned []) [] [⟨g1, 0 + k * 26, [.int .i64 200, .int .i64 o.to, .int .i64 o.id]⟩] W60.heap.size w' → Calls Try.prog 10 #[(pt cb 0), .agg #[.int .i64 o.to, .int .i64 200, .int .i64 o.id, .bool true, .int .i64 0, .int .i64 0, .int .i64 0, .int .i64 0, .int .i64 0, .int .i64 0, .int .i64 0, .int .i64 0, .string ⟨#[]⟩, .int .i64 0, .int .i64 0, .int .i64 0, .bool false, .int .i64 0, .int .i64 0, .int .i64 0, .string ⟨#[]⟩, .bool false, .int .i64 0, .int .i64 0, .int .i64 0, .string ⟨#[]⟩]] w' (RetK (.tuple #[.agg (List.toArray (drp_v1)), .bool false]) w')], dupR [(g1, 0 + k * 26 + 1, 1), (g1, 0 + k * 26 + 2, 1)], ⟨[(4, .bool false), (6, (pt cb 0)), (7, .slice (some ⟨g1, 0, none⟩) i0 c88), (11, .slice A89 j0 c89), (15, .int .i64 (k : Int)), (98, .tuple #[.agg (List.toArray (drp_v1)), .bool false])], [], [⟨g1, 0 + k * 26, [.int .i64 200, .int .i64 o.to, .int .i64 o.id]⟩], W60.heap.size⟩⟩ := by kernel_rfl
theorem drp_t28 (A89 : Option Addr) (c88 : Nat) (c89 : Nat) (cb : Nat) (k : Nat) (o : OneM) (i0 : Nat) (j0 : Nat) (g1 : Nat) (g27 : Nat) (y27 : Nat) : tailP [4, 6, 7, 11, 15, 17] (tailX Try.prog 138 (opsOf (getCode (bodyOf Try.f5) drp_n3)) 4 drp_n12 ⟨[(16, (pt g27 0)), (4, .bool false), (6, (pt cb 0)), (7, .slice (some ⟨g1, 0, none⟩) i0 c88), (11, .slice A89 j0 c89), (15, .int .i64 (k : Int)), (98, .tuple #[.agg (List.toArray (drp_v1)), .bool false])], [⟨g27, 31, true, (drp_v1)⟩], [⟨g1, 0 + k * 26, [.int .i64 200, .int .i64 o.to, .int .i64 o.id]⟩], y27⟩ [(14, true, oh0), (15, true, oh0), (17, false, ⟨false, 0, [⟨false, 0, 0, 9⟩]⟩), (18, false, oh0)]) = some (⟨[], dupR [(g27, 0, 9)], ⟨[(4, .bool false), (6, (pt cb 0)), (7, .slice (some ⟨g1, 0, none⟩) i0 c88), (11, .slice A89 j0 c89), (15, .int .i64 (k : Int)), (17, .bool false)], [⟨g27, 31, true, (drp_v1)⟩], [⟨g1, 0 + k * 26, [.int .i64 200, .int .i64 o.to, .int .i64 o.id]⟩], y27⟩⟩, 0, drp_n13) := by kernel_rfl
theorem drp_t29 (A89 : Option Addr) (c88 : Nat) (c89 : Nat) (cb : Nat) (k : Nat) (o : OneM) (i0 : Nat) (j0 : Nat) (g1 : Nat) (y27 : Nat) : tailP [4, 6, 7, 11, 15, 17] (tailX Try.prog 138 (opsOf (getCode (bodyOf Try.f5) drp_n3)) 5 drp_n11 ⟨[(4, .bool false), (6, (pt cb 0)), (7, .slice (some ⟨g1, 0, none⟩) i0 c88), (11, .slice A89 j0 c89), (15, .int .i64 (k : Int)), (98, .tuple #[.agg (List.toArray (drp_v1)), .bool false])], [], [⟨g1, 0 + k * 26, [.int .i64 200, .int .i64 o.to, .int .i64 o.id]⟩], y27⟩ [(14, true, oh0), (15, true, oh0), (16, false, oh0), (17, false, ⟨false, 0, [⟨false, 0, 0, 9⟩]⟩), (18, false, oh0)]) = some (⟨[], dupR [(y27, 0, 9)], ⟨[(4, .bool false), (6, (pt cb 0)), (7, .slice (some ⟨g1, 0, none⟩) i0 c88), (11, .slice A89 j0 c89), (15, .int .i64 (k : Int)), (17, .bool false)], [⟨y27, 31, true, (drp_v1)⟩], [⟨g1, 0 + k * 26, [.int .i64 200, .int .i64 o.to, .int .i64 o.id]⟩], y27 + 1⟩⟩, 0, drp_n13) := by kernel_rfl
set_option maxRecDepth 100000 in
set_option maxHeartbeats 4000000 in
theorem drops_any (A : Option Addr) (n cp : Nat) (nums : Nat → Num1) (B : Option Addr) (nb bp : Nat) (numb : Nat → Num1) (w : World) (HA : NumsAt w A n nums) (HB : NumsAt w B nb numb) :
    Calls Try.prog 5 #[.slice A n cp, .slice B nb bp] w (RetK (.bool true) w) := by
  refine calls_of_holds (S := (fun _ => False)) (l := [.slice A n cp, .slice B nb bp]) (n := 138) Try.func5 (body_of (by kernel_rfl)) rfl (by simp) (MemOk.none w _) ?_
  refine hgE 9 [oh0] [0, 1, 4] [] [] [.ops [1, 0] [0, 1], .code [1, 1]] ⟨[(0, .slice A n cp), (1, .slice B nb bp), (4, .bool false)], [], [], w.heap.size⟩ ?_
  refine hcp (.bool true) 6 [] (some 18) [] trivial rfl (fun wx hm => awake14P wx) fun z2 hz2 => ?_
  replace hz2 : w.heap.size ≤ z2 := hz2
  refine hgE 7 [oh0] [0, 1, 4, 5] [] [] [.ops [1, 1, 0] [0, 1], .code [1, 1, 1]] ⟨[(0, .slice A n cp), (1, .slice B nb bp), (4, .bool false), (5, .bool true)], [], [], z2⟩ ?_
  refine holds_callV (w := w) (S' := (fun _ => False)) (Y := Nat) (fun cb => (pt cb 0)) (fun cb => []) (fun cb W_ => PartyAt 59 61 W_ w.heap.size cb ⟨200, within14 7, []⟩) (fun cb => [(19, (pt cb 0)), (0, .slice A n cp), (1, .slice B nb bp), (4, .bool false), (5, .bool true)]) (show _ = some (7, [.int .i64 200, .int .i64 7], some 19, []) by kernel_rfl) trivial (fun _ => rfl) (fun wx hm => ?_) (fun cb W1 hX1 hm1 => ?_)
  · have hm0 := hm
    refine (new_party 200 7 wx).mono fun e w' hq => ?_
    obtain ⟨cb, he, hp, hk⟩ := hq
    exact ⟨cb, he, hp.below hm0.kept.size, hm0.offA (fun _ h => h) hk (fun _ h => h.elim) (fun _ _ h => h)⟩
  have hP1 := hX1
  rw [show (⟨200, within14 7, []⟩ : CM) = ⟨200, 7, []⟩ from by simp [within14, minZ, maxZ]] at hP1
  refine hgE 27 [oh0, oh0, oh0, oh0, oh0, oh0, ⟨false, 3, []⟩, oh0, oh0, oh0] [0, 1, 4, 6, 7, 8] [fF, fF, fF, fF] [] [.code [1, 1, 1, 1, 1, 0, 1, 0], .blk 0, .code [1, 1, 1, 1, 1, 1]] ⟨[(0, .slice A n cp), (1, .slice B nb bp), (4, .bool false), (6, (pt cb 0)), (7, .slice none 0 0), (8, .int .i64 0)], [], [], W1.heap.size⟩ ?_
  refine holds_loopW (w := w) (S' := fun _ => False) (DropsI1 A n cp B nb bp cb w) 8 (by kernel_rfl) (fun W0 hm => ⟨⟨0, [], none, 0, _, rfl, Nat.zero_le _, rfl, (fun o ho => by cases ho), by have h := (hP1.keptT hm.kept (turned_tys hm1) rfl rfl); simpa using h, OwnR.nil _ _ _ _, rfl⟩, (MemOk.bck hm1 hm)⟩) ?_
  rintro m _ W40 ⟨k, L, A0, c0, z, hmk, hkn, hLl, hL, hP40, hO40old, rfl⟩ hm40 J hJ
  by_cases h1 : k < n ∧ k < 8
  · skip
    obtain ⟨h1a, h1b⟩ := h1
    obtain ⟨hok, b1, o1, rfl, hb1lt, hb1c⟩ := HA k h1a
    obtain ⟨p, hp⟩ : ∃ p, pickZ (nums k).v 6 = p := ⟨_, rfl⟩
    have hpb := pickZ_bd (nums k).v 6 (by omega)
    rw [hp] at hpb
    refine holds_wins [⟨b1, o1 + k * 1, [.int .i64 ((nums k).v)]⟩] (fun _ y hy => ?_) ?_
    · simp only [List.mem_cons, List.not_mem_nil, or_false] at hy
      subst hy
      exact ⟨fun h => absurd (turned_new hm40 h) (Nat.not_le.2 hb1lt), Nat.lt_of_lt_of_le hb1lt hm40.kept.size, fun j v hj => num_cell hm40.kept hb1lt hb1c hj⟩
    refine hgE 26 drp_n15 [0, 1, 4, 6, 7, 8, 37, 41] [dT (((k : Int) : Int) < (n : Int)), dT (((k : Int) : Int) < (n : Int)), dT (((k : Int) : Int) < (n : Int)), dT (((k : Int) : Int) < 8), oE ((0 : Int) ≤ (k : Int) ∧ (k : Int) < ((n : Nat) : Int))] [(b1, o1 + k * 1, 1)] [.ops [1, 1, 1, 1, 1, 0, 1, 0, 0, 1, 0, 0, 0] [5, 6, 7, 8, 9, 10, 11, 12, 13], .code [1, 1, 1, 1, 1, 0, 1, 0, 0, 1, 0, 0, 1], .blk 1, .code drp_n1, .inv J, .blk 0, .code [1, 1, 1, 1, 1, 1]] ⟨[(0, .slice (some ⟨b1, o1, none⟩) n cp), (1, .slice B nb bp), (4, .bool false), (6, (pt cb 0)), (7, .slice A0 k c0), (8, .int .i64 (k : Int)), (37, (pt cb 0)), (41, .int .i64 ((nums k).v))], [], [⟨b1, o1 + k * 1, [.int .i64 ((nums k).v)]⟩], W40.heap.size⟩ ?_
    refine hcp (.int .i64 p) 8 [.int .i64 ((nums k).v), .int .i64 6] (some 42) [] trivial rfl (fun wx hm => pick14 _ _ _ hp wx (by omega) (by omega) hok.v) fun z7 hz7 => ?_
    replace hz7 : W40.heap.size ≤ z7 := hz7
    refine hgE 4 [oh0] [0, 1, 4, 6, 7, 8, 37, 42, 43] [] [] [.ops [1, 1, 1, 1, 1, 0, 1, 0, 0, 1, 0, 0, 0] [7, 8, 9, 10, 11, 12, 13], .code [1, 1, 1, 1, 1, 0, 1, 0, 0, 1, 0, 0, 1], .blk 1, .code drp_n1, .inv J, .blk 0, .code [1, 1, 1, 1, 1, 1]] ⟨[(0, .slice (some ⟨b1, o1, none⟩) n cp), (1, .slice B nb bp), (4, .bool false), (6, (pt cb 0)), (7, .slice A0 k c0), (8, .int .i64 (k : Int)), (37, (pt cb 0)), (42, .int .i64 p), (43, .agg (List.toArray (drp_v2)))], [], [⟨b1, o1 + k * 1, [.int .i64 ((nums k).v)]⟩], z7⟩ ?_
    refine holds_wins [] (fun _ _ h => by cases h) ?_
    refine holds_callV (w := w) (S' := (fun _ => False)) (Y := Unit) (fun _ => .tuple #[.agg (List.toArray (drp_v3 k p)), .bool true]) (fun _ => []) (fun _ W_ => PartyAt 59 61 W_ w.heap.size cb (askC ⟨200, 7 + (k : Int), L⟩ 0 p ⟨8, 0, 0, 0, 0, 0, 0, 0, ⟨#[]⟩⟩) ∧ OwnR W_ w.heap.size 37 26 A0 k c0 (lettersC 200 L)) (fun _ => [(44, .tuple #[.agg (List.toArray (drp_v3 k p)), .bool true]), (0, .slice (some ⟨b1, o1, none⟩) n cp), (1, .slice B nb bp), (4, .bool false), (6, (pt cb 0)), (7, .slice A0 k c0), (8, .int .i64 (k : Int)), (37, (pt cb 0)), (42, .int .i64 p), (43, .agg (List.toArray (drp_v2)))]) (show _ = some (9, [(pt cb 0), .int .i64 0, .int .i64 p, .agg (List.toArray (drp_v2))], some 44, []) by kernel_rfl) trivial (fun _ => rfl) (fun wx hm => ?_) (fun y_ W41 hX41 hm41 => ?_)
    · have hm0 := (MemOk.bck hm40 hm)
      refine (ask_party 0 p ⟨8, 0, 0, 0, 0, 0, 0, 0, ⟨#[]⟩⟩ (hP40.keptT hm.kept (turned_tys hm40) rfl rfl) (MemOk.bck hm40 hm).kept.size ⟨by have h9 := hLl; simp only; omega, by simp only; omega, by omega, by omega⟩).mono fun e w' hq => ?_
      obtain ⟨he, hp, hk⟩ := hq
      exact ⟨(), he, ⟨hp, ((hO40old.keptT hm.kept (turned_tys hm40) rfl).keptT (es := [59, 61]) hk (fun _ h => h.2) rfl)⟩, hm0.offA (fun _ h => h) hk (fun y h => .inr h.1) (off_tys hm (es := [59, 61]) (fun _ h => h.2) rfl)⟩
    obtain ⟨hP41, hO41old⟩ := hX41
    rw [show (askC ⟨200, 7 + (k : Int), L⟩ 0 p ⟨8, 0, 0, 0, 0, 0, 0, 0, ⟨#[]⟩⟩ : CM) = ⟨200, 7 + (k : Int) + 1, L ++ [⟨p, 7 + (k : Int) + 1, ⟨8, 0, 0, 0, 0, 0, 0, 0, ⟨#[]⟩⟩, 0, 0⟩]⟩ from ask_M (by simp [within14, minZ, maxZ])] at hP41
    refine hgE 22 [oh0, oh0, oh0, oh0, ⟨false, 0, [⟨false, 0, 0, 26⟩]⟩, oh0, oh0, oh0, oh0, oh0, ⟨false, 0, [⟨false, 0, 0, 26⟩]⟩, oh0] [0, 1, 4, 6, 7, 8, 49, 51] [fF] [(W41.heap.size, 0, 26), (W41.heap.size, 0, 26)] [.ops [1, 1, 1, 1, 1, 0, 1, 0, 0, 1, 0, 0, 1, 1] [3, 4], .blk 1, .code drp_n1, .inv J, .blk 0, .code [1, 1, 1, 1, 1, 1]] ⟨[(0, .slice (some ⟨b1, o1, none⟩) n cp), (1, .slice B nb bp), (4, .bool false), (6, (pt cb 0)), (7, .slice A0 k c0), (8, .int .i64 (k : Int)), (49, .slice A0 k c0), (51, .slice (some ⟨W41.heap.size + 1, 0, none⟩) 1 1)], [⟨W41.heap.size, 37, true, (drp_v3 k p)⟩, ⟨W41.heap.size + 1, 37, true, (drp_v3 k p)⟩], [], W41.heap.size + 2⟩ ?_
    refine holds_opV (w := w) (S' := (fun _ => False)) (Y := Option Addr × Nat) (dst := (some 52)) (x := Builtin.append_ #[27, 27] 27 #[.slice A0 k c0, .slice (some ⟨W41.heap.size + 1, 0, none⟩) 1 1]) (fun yq => .slice yq.1 (k + 1) yq.2) [] (fun yq W_ => PartyAt 59 61 W_ w.heap.size cb (⟨200, 7 + (k : Int) + 1, L ++ [⟨p, 7 + (k : Int) + 1, ⟨8, 0, 0, 0, 0, 0, 0, 0, ⟨#[]⟩⟩, 0, 0⟩]⟩) ∧ OwnR W_ w.heap.size 37 26 yq.1 (k + 1) yq.2 (lettersC 200 (L ++ [⟨p, 7 + (k : Int) + 1, ⟨8, 0, 0, 0, 0, 0, 0, 0, ⟨#[]⟩⟩, 0, 0⟩]))) (fun yq => [(52, .slice yq.1 (k + 1) yq.2), (0, .slice (some ⟨b1, o1, none⟩) n cp), (1, .slice B nb bp), (4, .bool false), (6, (pt cb 0)), (7, .slice A0 k c0), (8, .int .i64 (k : Int)), (49, .slice A0 k c0), (51, .slice (some ⟨W41.heap.size + 1, 0, none⟩) 1 1)]) (by kernel_rfl) (by kernel_rfl) (fun _ => rfl) (fun wx hm => ?_) (fun yq W42 hX42 hm42 => ?_)
    · have hO_ := (hO41old.keptT hm.kept (turned_tys hm41) rfl)
      have hm0 := (MemOk.bck hm41 hm)
      obtain ⟨A', cp', w', h1, h2, h3, h4⟩ := run_appendR (P := Try.prog) wx w.heap.size 27 27 37 (.agg (List.toArray (drp_v4))) 26 232 A0 k c0 (lettersC 200 L) ⟨W41.heap.size + 1, 0, none⟩ 1 1 (drp_v3 k p) (by kernel_rfl) (by kernel_rfl) (by kernel_rfl) (by decide) hO_ rfl (fun j x hj => by rw [add_norm, Nat.zero_add]; exact (hm.at_ 1 rfl).at_ hj) (ones_all (by kernel_rfl)) (by omega) (by decide) hm0.kept.size
      rw [show (drp_v3 k p) = letC 200 ⟨p, 7 + (k : Int) + 1, ⟨8, 0, 0, 0, 0, 0, 0, 0, ⟨#[]⟩⟩, 0, 0⟩ from rfl, lettersC_snoc] at h2
      exact ⟨(A', cp'), w', h1, ⟨((hP41.keptT hm.kept (turned_tys hm41) rfl rfl).keptT (es := [37]) h3 (own_tys hO_) rfl rfl), h2⟩, (hm0.sub (bk' := []) (by simp)).offA (fun _ h => h) h3 (fun y hy => .inr (hO_.own y hy).1) (off_tys (hm0.sub (bk' := []) (by simp)) (own_tys hO_) rfl)⟩
    obtain ⟨A42, c42⟩ := yq
    obtain ⟨hP42, hO42old⟩ := hX42
    refine hgE 11 [oh0, oh0, oh2, oh0] [0, 1, 4, 6, 7, 8] [n64 (((k : Int) + 1))] [] [.inv J, .blk 0, .code [1, 1, 1, 1, 1, 1]] ⟨[(0, .slice (some ⟨b1, o1, none⟩) n cp), (1, .slice B nb bp), (4, .bool false), (6, (pt cb 0)), (7, .slice A42 (k + 1) c42), (8, .int .i64 ((k : Int) + 1))], [], [], W42.heap.size⟩ ?_
    have hLN : ∀ o ∈ L ++ [(⟨p, 7 + (k : Int) + 1, ⟨8, 0, 0, 0, 0, 0, 0, 0, ⟨#[]⟩⟩, 0, 0⟩ : OneM)], 7 < o.id ∧ o.id ≤ 7 + ((k + 1 : Nat) : Int) ∧ o.asked = 0 ∧ o.sent = 0 := by
      intro o ho
      rcases List.mem_append.1 ho with ho | ho
      · have h9 := hL o ho
        exact ⟨h9.1, by omega, h9.2.2⟩
      · obtain rfl := List.mem_singleton.1 ho
        refine ⟨?_, ?_, rfl, rfl⟩ <;> simp only <;> omega
    intro a_ w9 hf hm
    exact hJ (m - 1) _ a_ w9 (by omega) ⟨k + 1, L ++ [⟨p, 7 + (k : Int) + 1, ⟨8, 0, 0, 0, 0, 0, 0, 0, ⟨#[]⟩⟩, 0, 0⟩], A42, c42, _, by omega, by omega, by rw [List.length_append, hLl]; rfl, hLN, by have h := (hP42.keptT hm.kept (turned_tys hm42) rfl rfl); rw [show (7 + ((k + 1 : Nat) : Int)) = 7 + (k : Int) + 1 by omega]; exact h, (hO42old.keptT hm.kept (turned_tys hm42) rfl), by rw [← cast_succ k]⟩ hf (MemOk.bck hm42 hm)
  suffices HX : Holds [] Try.prog (bodyOf Try.f5) 138 W40 (Turned []) (drp_Q w) [.ops [1, 1, 1, 1, 1, 1, 0] [1], .code [1, 1, 1, 1, 1, 1, 1]] ⟨[(1, .slice B nb bp), (4, .bool false), (6, (pt cb 0)), (7, .slice A0 k c0), (53, (pt cb 0))], [], [], W40.heap.size⟩ by
    by_cases h2 : k < n
    · skip
      refine hgE 20 [oh0, oh0, oh0, oh0, oh0, oh1, oh1, oh3, oh0, oh0] [1, 4, 6, 7, 53] [dT (((k : Int) : Int) < (n : Int)), dT (((k : Int) : Int) < (n : Int)), dT (((k : Int) : Int) < (n : Int)), dF (((k : Int) : Int) < 8)] [] [.ops [1, 1, 1, 1, 1, 1, 0] [1], .code [1, 1, 1, 1, 1, 1, 1]] ⟨[(1, .slice B nb bp), (4, .bool false), (6, (pt cb 0)), (7, .slice A0 k c0), (53, (pt cb 0))], [], [], W40.heap.size⟩ ?_
      exact HX
    · skip
      refine hgE 20 drp_n14 [1, 4, 6, 7, 53] [dF (((k : Int) : Int) < (n : Int)), dF (((k : Int) : Int) < (n : Int)), dF (((k : Int) : Int) < (n : Int)), fF] [] [.ops [1, 1, 1, 1, 1, 1, 0] [1], .code [1, 1, 1, 1, 1, 1, 1]] ⟨[(1, .slice B nb bp), (4, .bool false), (6, (pt cb 0)), (7, .slice A0 k c0), (53, (pt cb 0))], [], [], W40.heap.size⟩ ?_
      exact HX
  have hn8 : k ≤ 8 := by omega
  clear hJ hmk h1
  refine holds_callV (w := w) (S' := (fun _ => False)) (Y := Unit) (fun _ => .tuple #[]) (fun _ => []) (fun _ W_ => PartyAt 59 61 W_ w.heap.size cb ({ (⟨200, 7 + (k : Int), L⟩ : CM) with opn := [] }) ∧ OwnR W_ w.heap.size 37 26 A0 k c0 (lettersC 200 L)) (fun _ => [(54, .tuple #[]), (1, .slice B nb bp), (4, .bool false), (6, (pt cb 0)), (7, .slice A0 k c0), (53, (pt cb 0))]) (show _ = some (16, [(pt cb 0)], some 54, []) by kernel_rfl) trivial (fun _ => rfl) (fun wx hm => ?_) (fun y_ W41 hX41 hm41 => ?_)
  · have hm0 := (MemOk.bck hm40 hm)
    refine (drop_party (hP40.keptT hm.kept (turned_tys hm40) rfl rfl)).mono fun e w' hq => ?_
    obtain ⟨he, hp, hk⟩ := hq
    exact ⟨(), he, ⟨hp, ((hO40old.keptT hm.kept (turned_tys hm40) rfl).keptT (es := [59, 61]) hk (fun _ h => h.2) rfl)⟩, hm0.offA (fun _ h => h) hk (fun y h => .inr h.1) (off_tys hm (es := [59, 61]) (fun _ h => h.2) rfl)⟩
  obtain ⟨hP41, hO41old⟩ := hX41
  rw [show ({ (⟨200, 7 + (k : Int), L⟩ : CM) with opn := [] } : CM) = ⟨200, 7 + (k : Int), []⟩ from rfl] at hP41
  obtain ⟨i0, h_i0⟩ : ∃ x_, x_ = k := ⟨_, rfl⟩
  subst h_i0
  obtain ⟨L0, h_L0⟩ : ∃ x_, x_ = L := ⟨_, rfl⟩
  subst h_L0
  obtain ⟨A88, h_A88⟩ : ∃ x_, x_ = A0 := ⟨_, rfl⟩
  subst h_A88
  obtain ⟨c88, h_c88⟩ : ∃ x_, x_ = c0 := ⟨_, rfl⟩
  subst h_c88
  have hi8 := hn8
  have hi0n := hkn
  have hL0l := hLl
  have hL0 := hL
  clear hn8 hkn hLl hL
  refine hgE 14 [oh0, oh0] [1, 4, 6, 7, 11, 12] [] [] [.code [1, 1, 1, 1, 1, 1, 1, 1, 0, 1, 0], .blk 2, .code drp_n10] ⟨[(1, .slice B nb bp), (4, .bool false), (6, (pt cb 0)), (7, .slice A88 i0 c88), (11, .slice none 0 0), (12, .int .i64 0)], [], [], W41.heap.size⟩ ?_
  refine holds_loopW (w := w) (S' := fun _ => False) (DropsI2 A88 c88 B nb bp cb w i0 L0) 8 (by kernel_rfl) (fun W0 hm => ⟨⟨0, [], none, 0, _, rfl, Nat.zero_le _, rfl, (fun o ho => by cases ho), by have h := (hP41.keptT hm.kept (turned_tys hm41) rfl rfl); simpa using h, (hO41old.keptT hm.kept (turned_tys hm41) rfl), OwnR.nil _ _ _ _, (fun y _ h => (by obtain ⟨a, ha, _⟩ := h; cases ha)), rfl⟩, (MemOk.bck hm41 hm)⟩) ?_
  rintro m _ W50 ⟨k, L, A0, c0, z, hmk, hkn, hLl, hL, hP50, hO50old, hO50open, hA50oldopen, rfl⟩ hm50 J hJ
  by_cases h1 : k < nb ∧ k < 8
  · skip
    obtain ⟨h1a, h1b⟩ := h1
    obtain ⟨hok, b1, o1, rfl, hb1lt, hb1c⟩ := HB k h1a
    obtain ⟨p, hp⟩ : ∃ p, pickZ (numb k).v 6 = p := ⟨_, rfl⟩
    have hpb := pickZ_bd (numb k).v 6 (by omega)
    rw [hp] at hpb
    refine holds_wins [⟨b1, o1 + k * 1, [.int .i64 ((numb k).v)]⟩] (fun _ y hy => ?_) ?_
    · simp only [List.mem_cons, List.not_mem_nil, or_false] at hy
      subst hy
      exact ⟨fun h => absurd (turned_new hm50 h) (Nat.not_le.2 hb1lt), Nat.lt_of_lt_of_le hb1lt hm50.kept.size, fun j v hj => num_cell hm50.kept hb1lt hb1c hj⟩
    refine hgE 26 drp_n15 [1, 4, 6, 7, 11, 12, 66, 70] [dT (((k : Int) : Int) < (nb : Int)), dT (((k : Int) : Int) < (nb : Int)), dT (((k : Int) : Int) < (nb : Int)), dT (((k : Int) : Int) < 8), oE ((0 : Int) ≤ (k : Int) ∧ (k : Int) < ((nb : Nat) : Int))] [(b1, o1 + k * 1, 1)] [.ops [1, 1, 1, 1, 1, 1, 1, 1, 0, 1, 0, 0, 1, 0, 0, 0] [5, 6, 7, 8, 9, 10, 11, 12, 13], .code [1, 1, 1, 1, 1, 1, 1, 1, 0, 1, 0, 0, 1, 0, 0, 1], .blk 3, .code drp_n2, .inv J, .blk 2, .code drp_n10] ⟨[(1, .slice (some ⟨b1, o1, none⟩) nb bp), (4, .bool false), (6, (pt cb 0)), (7, .slice A88 i0 c88), (11, .slice A0 k c0), (12, .int .i64 (k : Int)), (66, (pt cb 0)), (70, .int .i64 ((numb k).v))], [], [⟨b1, o1 + k * 1, [.int .i64 ((numb k).v)]⟩], W50.heap.size⟩ ?_
    refine hcp (.int .i64 p) 8 [.int .i64 ((numb k).v), .int .i64 6] (some 71) [] trivial rfl (fun wx hm => pick14 _ _ _ hp wx (by omega) (by omega) hok.v) fun z18 hz18 => ?_
    replace hz18 : W50.heap.size ≤ z18 := hz18
    refine hgE 4 [oh0] [1, 4, 6, 7, 11, 12, 66, 71, 72] [] [] [.ops [1, 1, 1, 1, 1, 1, 1, 1, 0, 1, 0, 0, 1, 0, 0, 0] [7, 8, 9, 10, 11, 12, 13], .code [1, 1, 1, 1, 1, 1, 1, 1, 0, 1, 0, 0, 1, 0, 0, 1], .blk 3, .code drp_n2, .inv J, .blk 2, .code drp_n10] ⟨[(1, .slice (some ⟨b1, o1, none⟩) nb bp), (4, .bool false), (6, (pt cb 0)), (7, .slice A88 i0 c88), (11, .slice A0 k c0), (12, .int .i64 (k : Int)), (66, (pt cb 0)), (71, .int .i64 p), (72, .agg (List.toArray (drp_v2)))], [], [⟨b1, o1 + k * 1, [.int .i64 ((numb k).v)]⟩], z18⟩ ?_
    refine holds_wins [] (fun _ _ h => by cases h) ?_
    refine holds_callV (w := w) (S' := (fun _ => False)) (Y := Unit) (fun _ => .tuple #[.agg (List.toArray (drp_v5 k p i0)), .bool true]) (fun _ => []) (fun _ W_ => PartyAt 59 61 W_ w.heap.size cb (askC ⟨200, 7 + (i0 : Int) + (k : Int), L⟩ 50 p ⟨8, 0, 0, 0, 0, 0, 0, 0, ⟨#[]⟩⟩) ∧ OwnR W_ w.heap.size 37 26 A88 i0 c88 (lettersC 200 L0) ∧ OwnR W_ w.heap.size 37 26 A0 k c0 (lettersC 200 L) ∧ (∀ yy, ownS A88 yy → ¬ ownS A0 yy)) (fun _ => [(73, .tuple #[.agg (List.toArray (drp_v5 k p i0)), .bool true]), (1, .slice (some ⟨b1, o1, none⟩) nb bp), (4, .bool false), (6, (pt cb 0)), (7, .slice A88 i0 c88), (11, .slice A0 k c0), (12, .int .i64 (k : Int)), (66, (pt cb 0)), (71, .int .i64 p), (72, .agg (List.toArray (drp_v2)))]) (show _ = some (9, [(pt cb 0), .int .i64 50, .int .i64 p, .agg (List.toArray (drp_v2))], some 73, []) by kernel_rfl) trivial (fun _ => rfl) (fun wx hm => ?_) (fun y_ W51 hX51 hm51 => ?_)
    · have hm0 := (MemOk.bck hm50 hm)
      refine (ask_party 50 p ⟨8, 0, 0, 0, 0, 0, 0, 0, ⟨#[]⟩⟩ (hP50.keptT hm.kept (turned_tys hm50) rfl rfl) (MemOk.bck hm50 hm).kept.size ⟨by have h9 := hLl; simp only; omega, by simp only; omega, by omega, by omega⟩).mono fun e w' hq => ?_
      obtain ⟨he, hp, hk⟩ := hq
      exact ⟨(), he, ⟨hp, ((hO50old.keptT hm.kept (turned_tys hm50) rfl).keptT (es := [59, 61]) hk (fun _ h => h.2) rfl), ((hO50open.keptT hm.kept (turned_tys hm50) rfl).keptT (es := [59, 61]) hk (fun _ h => h.2) rfl), hA50oldopen⟩, hm0.offA (fun _ h => h) hk (fun y h => .inr h.1) (off_tys hm (es := [59, 61]) (fun _ h => h.2) rfl)⟩
    obtain ⟨hP51, hO51old, hO51open, hA51oldopen⟩ := hX51
    rw [show (askC ⟨200, 7 + (i0 : Int) + (k : Int), L⟩ 50 p ⟨8, 0, 0, 0, 0, 0, 0, 0, ⟨#[]⟩⟩ : CM) = ⟨200, 7 + (i0 : Int) + (k : Int) + 1, L ++ [⟨p, 7 + (i0 : Int) + (k : Int) + 1, ⟨8, 0, 0, 0, 0, 0, 0, 0, ⟨#[]⟩⟩, 50, 50⟩]⟩ from ask_M (by simp [within14, minZ, maxZ])] at hP51
    refine hgE 32 [oh0, oh0, oh0, oh0, ⟨false, 0, [⟨false, 0, 0, 26⟩]⟩, oh0, oh0, oh0, oh0, oh0, ⟨false, 0, [⟨false, 0, 2, 1⟩]⟩, oh0, oh0, oh2, oh0, oh2, oh0, ⟨false, 3, []⟩, oh0, oh0, ⟨false, 0, [⟨false, 0, 0, 26⟩]⟩, oh0] [1, 4, 6, 7, 11, 12, 88, 90] [fF, fF, fF, fF, fF, n64 ((8 + (i0 : Int))), fF, fF, n64 (((8 + (i0 : Int)) + (k : Int))), fF, fF, oE (((7 + (i0 : Int) + (k : Int) + 1) != ((8 + (i0 : Int)) + (k : Int))) = false) (bne_eq_false_iff_eq.2 (by omega))] [(W51.heap.size, 0, 26), (W51.heap.size, 2, 1), (W51.heap.size, 0, 26)] [.ops [1, 1, 1, 1, 1, 1, 1, 1, 0, 1, 0, 0, 1, 0, 0, 1, 1] [3, 4], .blk 3, .code drp_n2, .inv J, .blk 2, .code drp_n10] ⟨[(1, .slice (some ⟨b1, o1, none⟩) nb bp), (4, .bool false), (6, (pt cb 0)), (7, .slice A88 i0 c88), (11, .slice A0 k c0), (12, .int .i64 (k : Int)), (88, .slice A0 k c0), (90, .slice (some ⟨W51.heap.size + 1, 0, none⟩) 1 1)], [⟨W51.heap.size, 37, true, (drp_v5 k p i0)⟩, ⟨W51.heap.size + 1, 37, true, (drp_v5 k p i0)⟩], [], W51.heap.size + 2⟩ ?_
    refine holds_opV (w := w) (S' := (fun _ => False)) (Y := Option Addr × Nat) (dst := (some 91)) (x := Builtin.append_ #[27, 27] 27 #[.slice A0 k c0, .slice (some ⟨W51.heap.size + 1, 0, none⟩) 1 1]) (fun yq => .slice yq.1 (k + 1) yq.2) [] (fun yq W_ => PartyAt 59 61 W_ w.heap.size cb (⟨200, 7 + (i0 : Int) + (k : Int) + 1, L ++ [⟨p, 7 + (i0 : Int) + (k : Int) + 1, ⟨8, 0, 0, 0, 0, 0, 0, 0, ⟨#[]⟩⟩, 50, 50⟩]⟩) ∧ OwnR W_ w.heap.size 37 26 A88 i0 c88 (lettersC 200 L0) ∧ OwnR W_ w.heap.size 37 26 yq.1 (k + 1) yq.2 (lettersC 200 (L ++ [⟨p, 7 + (i0 : Int) + (k : Int) + 1, ⟨8, 0, 0, 0, 0, 0, 0, 0, ⟨#[]⟩⟩, 50, 50⟩])) ∧ (∀ yy, ownS A88 yy → ¬ ownS yq.1 yy)) (fun yq => [(91, .slice yq.1 (k + 1) yq.2), (1, .slice (some ⟨b1, o1, none⟩) nb bp), (4, .bool false), (6, (pt cb 0)), (7, .slice A88 i0 c88), (11, .slice A0 k c0), (12, .int .i64 (k : Int)), (88, .slice A0 k c0), (90, .slice (some ⟨W51.heap.size + 1, 0, none⟩) 1 1)]) (by kernel_rfl) (by kernel_rfl) (fun _ => rfl) (fun wx hm => ?_) (fun yq W52 hX52 hm52 => ?_)
    · have hO_ := (hO51open.keptT hm.kept (turned_tys hm51) rfl)
      have hm0 := (MemOk.bck hm51 hm)
      obtain ⟨A', cp', w', h1, h2, h3, h4⟩ := run_appendR (P := Try.prog) wx w.heap.size 27 27 37 (.agg (List.toArray (drp_v4))) 26 232 A0 k c0 (lettersC 200 L) ⟨W51.heap.size + 1, 0, none⟩ 1 1 (drp_v5 k p i0) (by kernel_rfl) (by kernel_rfl) (by kernel_rfl) (by decide) hO_ rfl (fun j x hj => by rw [add_norm, Nat.zero_add]; exact (hm.at_ 1 rfl).at_ hj) (ones_all (by kernel_rfl)) (by omega) (by decide) hm0.kept.size
      rw [show (drp_v5 k p i0) = letC 200 ⟨p, 7 + (i0 : Int) + (k : Int) + 1, ⟨8, 0, 0, 0, 0, 0, 0, 0, ⟨#[]⟩⟩, 50, 50⟩ from rfl, lettersC_snoc] at h2
      exact ⟨(A', cp'), w', h1, ⟨((hP51.keptT hm.kept (turned_tys hm51) rfl rfl).keptT (es := [37]) h3 (own_tys hO_) rfl rfl), ((hO51old.keptT hm.kept (turned_tys hm51) rfl).kept h3 (fun y hy hy' => hA51oldopen y hy hy')), h2, (fun y hy hy' => (h4 y hy').elim (fun h => hA51oldopen y hy h) (fun h => absurd ((hO51old.keptT hm.kept (turned_tys hm51) rfl).own y hy).2 (Nat.not_lt.2 h)))⟩, (hm0.sub (bk' := []) (by simp)).offA (fun _ h => h) h3 (fun y hy => .inr (hO_.own y hy).1) (off_tys (hm0.sub (bk' := []) (by simp)) (own_tys hO_) rfl)⟩
    obtain ⟨A52, c52⟩ := yq
    obtain ⟨hP52, hO52old, hO52open, hA52oldopen⟩ := hX52
    refine hgE 11 [oh0, oh0, oh2, oh0] [1, 4, 6, 7, 11, 12] [n64 (((k : Int) + 1))] [] [.inv J, .blk 2, .code drp_n10] ⟨[(1, .slice (some ⟨b1, o1, none⟩) nb bp), (4, .bool false), (6, (pt cb 0)), (7, .slice A88 i0 c88), (11, .slice A52 (k + 1) c52), (12, .int .i64 ((k : Int) + 1))], [], [], W52.heap.size⟩ ?_
    have hLN : ∀ o ∈ L ++ [(⟨p, 7 + (i0 : Int) + (k : Int) + 1, ⟨8, 0, 0, 0, 0, 0, 0, 0, ⟨#[]⟩⟩, 50, 50⟩ : OneM)], 7 + (i0 : Int) < o.id ∧ o.id ≤ 7 + (i0 : Int) + ((k + 1 : Nat) : Int) ∧ o.asked = 50 ∧ o.sent = 50 := by
      intro o ho
      rcases List.mem_append.1 ho with ho | ho
      · have h9 := hL o ho
        exact ⟨h9.1, by omega, h9.2.2⟩
      · obtain rfl := List.mem_singleton.1 ho
        refine ⟨?_, ?_, rfl, rfl⟩ <;> simp only <;> omega
    intro a_ w9 hf hm
    exact hJ (m - 1) _ a_ w9 (by omega) ⟨k + 1, L ++ [⟨p, 7 + (i0 : Int) + (k : Int) + 1, ⟨8, 0, 0, 0, 0, 0, 0, 0, ⟨#[]⟩⟩, 50, 50⟩], A52, c52, _, by omega, by omega, by rw [List.length_append, hLl]; rfl, hLN, by have h := (hP52.keptT hm.kept (turned_tys hm52) rfl rfl); rw [show (7 + (i0 : Int) + ((k + 1 : Nat) : Int)) = 7 + (i0 : Int) + (k : Int) + 1 by omega]; exact h, (hO52old.keptT hm.kept (turned_tys hm52) rfl), (hO52open.keptT hm.kept (turned_tys hm52) rfl), hA52oldopen, by rw [← cast_succ k]⟩ hf (MemOk.bck hm52 hm)
  suffices HX : Holds [] Try.prog (bodyOf Try.f5) 138 W50 (Turned []) (drp_Q w) [.code drp_n6, .blk 4, .code drp_n9] ⟨[(4, .bool false), (6, (pt cb 0)), (7, .slice A88 i0 c88), (11, .slice A0 k c0), (15, .int .i64 0)], [], [], W50.heap.size⟩ by
    by_cases h2 : k < nb
    · skip
      refine hgE 23 [oh0, oh0, oh0, oh0, oh0, oh1, oh1, oh3, oh0, oh0] [4, 6, 7, 11, 15] [dT (((k : Int) : Int) < (nb : Int)), dT (((k : Int) : Int) < (nb : Int)), dT (((k : Int) : Int) < (nb : Int)), dF (((k : Int) : Int) < 8)] [] [.code drp_n6, .blk 4, .code drp_n9] ⟨[(4, .bool false), (6, (pt cb 0)), (7, .slice A88 i0 c88), (11, .slice A0 k c0), (15, .int .i64 0)], [], [], W50.heap.size⟩ ?_
      exact HX
    · skip
      refine hgE 23 drp_n14 [4, 6, 7, 11, 15] [dF (((k : Int) : Int) < (nb : Int)), dF (((k : Int) : Int) < (nb : Int)), dF (((k : Int) : Int) < (nb : Int)), fF] [] [.code drp_n6, .blk 4, .code drp_n9] ⟨[(4, .bool false), (6, (pt cb 0)), (7, .slice A88 i0 c88), (11, .slice A0 k c0), (15, .int .i64 0)], [], [], W50.heap.size⟩ ?_
      exact HX
  have hj8 : k ≤ 8 := by omega
  clear hJ hmk h1
  obtain ⟨j0, h_j0⟩ : ∃ x_, x_ = k := ⟨_, rfl⟩
  subst h_j0
  obtain ⟨LB, h_LB⟩ : ∃ x_, x_ = L := ⟨_, rfl⟩
  subst h_LB
  obtain ⟨A89, h_A89⟩ : ∃ x_, x_ = A0 := ⟨_, rfl⟩
  subst h_A89
  obtain ⟨c89, h_c89⟩ : ∃ x_, x_ = c0 := ⟨_, rfl⟩
  subst h_c89
  refine holds_loopW (w := w) (S' := fun _ => False) (DropsI3 A88 A89 c88 c89 cb w i0 j0 L0 LB) i0 (by kernel_rfl) (fun W0 hm => ⟨⟨0, _, rfl, (hP50.keptT hm.kept (turned_tys hm50) rfl rfl), (hO50old.keptT hm.kept (turned_tys hm50) rfl), (hO50open.keptT hm.kept (turned_tys hm50) rfl), hA50oldopen, rfl⟩, (MemOk.bck hm50 hm)⟩) ?_
  rintro m _ W60 ⟨k, z, hmk, hP60, hO60old, hO60open, hA60oldopen, rfl⟩ hm60 J hJ
  by_cases h1 : k < i0
  · skip
    obtain ⟨o, ho⟩ : ∃ o, L0[k]? = some o := ⟨_, List.getElem?_eq_getElem (by omega)⟩
    obtain ⟨g1, hA1, hg1, hc1⟩ := row_own hO60old (xs := letC 200 o) (fun j v hj => letters_get ho hj)
    subst hA1
    refine holds_wins [⟨g1, 0 + k * 26, [.int .i64 200, .int .i64 o.to, .int .i64 o.id]⟩] (fun _ y hy => ?_) ?_
    · simp only [List.mem_cons, List.not_mem_nil, or_false] at hy
      subst hy
      refine ⟨fun ⟨_, hb, _⟩ => (by cases hb), hg1, fun i v hv => hc1 i v ?_⟩
      match i, hv with
      | 0, hv => exact hv
      | 1, hv => exact hv
      | 2, hv => exact hv
      | i + 3, hv => simp at hv
    refine hgE 16 [oh0, oh0, oh0, oh0, oh1] [4, 6, 7, 11, 15] [dT (((k : Int) : Int) < (i0 : Int))] [] [.code drp_n3, .code drp_n4, .blk 5, .code drp_n5, .inv J, .blk 4, .code drp_n9] ⟨[(4, .bool false), (6, (pt cb 0)), (7, .slice (some ⟨g1, 0, none⟩) i0 c88), (11, .slice A89 j0 c89), (15, .int .i64 (k : Int))], [], [⟨g1, 0 + k * 26, [.int .i64 200, .int .i64 o.to, .int .i64 o.id]⟩], W60.heap.size⟩ ?_
    have HZ : ∀ (g27 y27 : Nat), W60.heap.size ≤ g27 → W60.heap.size ≤ y27 → Holds [] Try.prog (bodyOf Try.f5) 138 W60 (Turned []) (drp_Q w) [.code drp_n4, .blk 5, .code drp_n5, .inv J, .blk 4, .code drp_n9] ⟨[(4, .bool false), (6, (pt cb 0)), (7, .slice (some ⟨g1, 0, none⟩) i0 c88), (11, .slice A89 j0 c89), (15, .int .i64 (k : Int)), (17, .bool false)], [⟨g27, 31, true, (drp_v1)⟩], [⟨g1, 0 + k * 26, [.int .i64 200, .int .i64 o.to, .int .i64 o.id]⟩], y27⟩ := by
      intro g27 y27 hg27 hy27
      refine holds_go (f := 15) (hs := [oh0, oh0, oh0, oh2, oh0]) [4, 6, 7, 11, 15] [false] (show _ = some (Res.mk [false = false, inR .i64 (((k : Int) + 1))] (dupR []) [.inv J, .blk 4, .code drp_n9] ⟨[(4, .bool false), (6, (pt cb 0)), (7, .slice (some ⟨g1, 0, none⟩) i0 c88), (11, .slice A89 j0 c89), (15, .int .i64 ((k : Int) + 1))], [], [⟨g1, 0 + k * 26, [.int .i64 200, .int .i64 o.to, .int .i64 o.id]⟩], y27⟩) by kernel_rfl) ⟨rfl, in64 (by omega), trivial⟩ ?_
      refine holds_wins [] (fun _ _ h => by cases h) ?_
      intro a_ w9 hf hm
      exact hJ (m - 1) _ a_ w9 (by omega) ⟨k + 1, _, by omega, (hP60.keptT hm.kept (turned_tys hm60) rfl rfl), (hO60old.keptT hm.kept (turned_tys hm60) rfl), (hO60open.keptT hm.kept (turned_tys hm60) rfl), hA60oldopen, by rw [← cast_succ k]⟩ hf (MemOk.bck hm60 hm)
    have H1 : ∀ (g27 y27 : Nat), W60.heap.size ≤ g27 → W60.heap.size ≤ y27 → Holds [] Try.prog (bodyOf Try.f5) 138 W60 (Turned []) (drp_Q w) (.any drp_n3 4 drp_n12 :: [.code drp_n4, .blk 5, .code drp_n5, .inv J, .blk 4, .code drp_n9]) ⟨[(16, (pt g27 0)), (4, .bool false), (6, (pt cb 0)), (7, .slice (some ⟨g1, 0, none⟩) i0 c88), (11, .slice A89 j0 c89), (15, .int .i64 (k : Int)), (98, .tuple #[.agg (List.toArray (drp_v1)), .bool false])], [⟨g27, 31, true, (drp_v1)⟩], [⟨g1, 0 + k * 26, [.int .i64 200, .int .i64 o.to, .int .i64 o.id]⟩], y27⟩ := by
      intro g27 y27 hg27 hy27
      refine holds_tail panicOk_body _ _ (drp_t28 A89 c88 c89 cb k o i0 j0 g1 g27 y27) trivial ?_
      refine holds_done (by kernel_rfl) ?_
      exact HZ g27 _ (by omega) (by omega)
    refine holds_float (fl := 16) (t := 31) (d := 16) (cs := (drp_v1)) (ls0 := drp_n11) (ls1 := drp_n12) (f := 4) 14 _ _ (by kernel_rfl) (by kernel_rfl) (by kernel_rfl) (by kernel_rfl) (by decide) (by kernel_rfl) (by kernel_rfl) (by kernel_rfl) (drp_q27 A89 c88 c89 cb k o W60 i0 j0 g1) ⟨⟨by omega, by omega⟩, ⟨by omega, by omega⟩, (fun wx hm => by have h7 := miss_party (w := wx) o.to o.id (hP60.keptT hm.2.kept (turned_tys hm60) rfl rfl) (fun o' ho' h => by have h8 := hL o' ho'; have h9 := hL0 o (List.mem_of_getElem? ho); omega); exact h7), trivial⟩ H1 ?_
    intro y27 hy27
    replace hy27 : W60.heap.size ≤ y27 := hy27
    refine holds_tail panicOk_body _ _ (drp_t29 A89 c88 c89 cb k o i0 j0 g1 y27) trivial ?_
    refine holds_done (by kernel_rfl) ?_
    exact HZ _ _ (by omega) (by omega)
  refine hgE 16 [oh0, oh0, oh0, oh0, oh0, oh0] [4, 6, 11, 115] [dF (((k : Int) : Int) < (i0 : Int))] [] [.ops drp_n7 [1, 2, 3, 4, 5, 6, 7, 8, 9, 10, 11, 12, 13, 14, 15, 16, 17, 18, 19, 20, 21, 22, 23], .code drp_n8] ⟨[(4, .bool false), (6, (pt cb 0)), (11, .slice A89 j0 c89), (115, (pt cb 0))], [], [], W60.heap.size⟩ ?_
  refine hcp (.int .i64 (j0 : Int)) 14 [(pt cb 0)] (some 116) [] trivial rfl (fun wx hm => by have h := open_party (hP60.keptT hm.kept (turned_tys hm60) rfl rfl); simp only [hLl] at h; exact h) fun z32 hz32 => ?_
  replace hz32 : W60.heap.size ≤ z32 := hz32
  refine hgE 8 [oh0, oh0, oh0, oh0, oh1] [4, 6, 11, 120, 121] [oE (((j0 : Int) == (j0 : Int)) = true) (beq_self_eq_true _)] [] [.ops drp_n7 [7, 8, 9, 10, 11, 12, 13, 14, 15, 16, 17, 18, 19, 20, 21, 22, 23], .code drp_n8] ⟨[(4, .bool false), (6, (pt cb 0)), (11, .slice A89 j0 c89), (120, .bool ((j0 : Int) == (j0 : Int))), (121, (pt cb 0))], [], [], z32⟩ ?_
  have e61 : againL (within14 51) (⟨200, 7 + (i0 : Int) + (j0 : Int), LB⟩ : CM).opn = [] := by
    show againL (within14 51) LB = []
    rw [show within14 51 = 51 by simp [within14, minZ, maxZ]]
    exact againL_none (fun o ho => by have := hL o ho; omega)
  refine holds_callV (w := w) (S' := (fun _ => False)) (Y := Option Addr × Nat) (fun (⟨Al, cl⟩ : Option Addr × Nat) => .slice Al 0 cl) (fun (⟨Al, cl⟩ : Option Addr × Nat) => []) (fun (⟨Al, cl⟩ : Option Addr × Nat) W_ => PartyAt 59 61 W_ w.heap.size cb ({ (⟨200, 7 + (i0 : Int) + (j0 : Int), LB⟩ : CM) with opn := againS (within14 51) (⟨200, 7 + (i0 : Int) + (j0 : Int), LB⟩ : CM).opn }) ∧ OwnR W_ w.heap.size 37 26 A88 i0 c88 (lettersC 200 L0) ∧ OwnR W_ w.heap.size 37 26 A89 j0 c89 (lettersC 200 LB) ∧ (∀ yy, ownS A88 yy → ¬ ownS A89 yy)) (fun (⟨Al, cl⟩ : Option Addr × Nat) => [(122, .slice Al 0 cl), (4, .bool false), (6, (pt cb 0)), (11, .slice A89 j0 c89), (120, .bool ((j0 : Int) == (j0 : Int))), (121, (pt cb 0))]) (show _ = some (11, [(pt cb 0), .int .i64 51], some 122, [((j0 : Int) == (j0 : Int)) = true]) by kernel_rfl) ⟨beq_self_eq_true _, trivial⟩ (fun _ => rfl) (fun wx hm => ?_) (fun ⟨A61, c61⟩ W61 hX61 hm61 => ?_)
  · have hm0 := (MemOk.bck hm60 hm)
    refine (again_party 51 (hP60.keptT hm.kept (turned_tys hm60) rfl rfl)).mono fun e w' hq => ?_
    obtain ⟨Al, cl, he, ho, hp, hk⟩ := hq
    rw [e61] at he
    exact ⟨(⟨Al, cl⟩ : Option Addr × Nat), he, ⟨hp, ((hO60old.keptT hm.kept (turned_tys hm60) rfl).keptT (es := [59, 61]) hk (fun _ h => h.2) rfl), ((hO60open.keptT hm.kept (turned_tys hm60) rfl).keptT (es := [59, 61]) hk (fun _ h => h.2) rfl), hA60oldopen⟩, hm0.offA (fun _ h => h) hk (fun y h => .inr h.1) (off_tys hm (es := [59, 61]) (fun _ h => h.2) rfl)⟩
  obtain ⟨hP61, hO61old, hO61open, hA61oldopen⟩ := hX61
  rw [show ({ (⟨200, 7 + (i0 : Int) + (j0 : Int), LB⟩ : CM) with opn := againS (within14 51) (⟨200, 7 + (i0 : Int) + (j0 : Int), LB⟩ : CM).opn } : CM) = ⟨200, 7 + (i0 : Int) + (j0 : Int), LB⟩ from by rw [show againS (within14 51) (⟨200, 7 + (i0 : Int) + (j0 : Int), LB⟩ : CM).opn = LB from (by show againS (within14 51) LB = LB; rw [show within14 51 = 51 by simp [within14, minZ, maxZ]]; exact againS_none (fun o ho => by have := hL o ho; omega))]] at hP61
  refine hgE 8 [oh1, oh1, oh3, oh0, oh1] [4, 6, 11, 126, 127] [oE (((j0 : Int) == (j0 : Int)) = true) (beq_self_eq_true _), oE (((j0 : Int) == (j0 : Int)) = true) (beq_self_eq_true _), oE (((j0 : Int) == (j0 : Int)) = true) (beq_self_eq_true _), tT] [] [.ops drp_n7 [13, 14, 15, 16, 17, 18, 19, 20, 21, 22, 23], .code drp_n8] ⟨[(4, .bool false), (6, (pt cb 0)), (11, .slice A89 j0 c89), (126, .bool true), (127, (pt cb 0))], [], [], W61.heap.size⟩ ?_
  refine holds_callV (w := w) (S' := (fun _ => False)) (Y := Option Addr × Nat) (fun (⟨Al, cl⟩ : Option Addr × Nat) => .slice Al 0 cl) (fun (⟨Al, cl⟩ : Option Addr × Nat) => []) (fun (⟨Al, cl⟩ : Option Addr × Nat) W_ => PartyAt 59 61 W_ w.heap.size cb (⟨200, 7 + (i0 : Int) + (j0 : Int), LB⟩) ∧ OwnR W_ w.heap.size 37 26 A88 i0 c88 (lettersC 200 L0) ∧ OwnR W_ w.heap.size 37 26 A89 j0 c89 (lettersC 200 LB) ∧ (∀ yy, ownS A88 yy → ¬ ownS A89 yy)) (fun (⟨Al, cl⟩ : Option Addr × Nat) => [(128, .slice Al 0 cl), (4, .bool false), (6, (pt cb 0)), (11, .slice A89 j0 c89), (126, .bool true), (127, (pt cb 0))]) (show _ = some (13, [(pt cb 0), .int .i64 57], some 128, [true = true]) by kernel_rfl) ⟨rfl, trivial⟩ (fun _ => rfl) (fun wx hm => ?_) (fun ⟨A62, c62⟩ W62 hX62 hm62 => ?_)
  · have hm0 := (MemOk.bck hm61 hm)
    refine (late_party 57 (hP61.keptT hm.kept (turned_tys hm61) rfl rfl)).mono fun e w' hq => ?_
    obtain ⟨Al, cl, ys, he, ho, hl, hk⟩ := hq
    have hys : ys = [] := hl.2.1.2 (fun o ho => by have := hL o ho; rw [show within14 57 = 57 by simp [within14, minZ, maxZ]]; omega)
    rw [hys] at he
    exact ⟨(⟨Al, cl⟩ : Option Addr × Nat), he, ⟨((hP61.keptT hm.kept (turned_tys hm61) rfl rfl).keptT (es := []) hk (fun _ h => h.elim) rfl rfl), ((hO61old.keptT hm.kept (turned_tys hm61) rfl).keptT (es := []) hk (fun _ h => h.elim) rfl), ((hO61open.keptT hm.kept (turned_tys hm61) rfl).keptT (es := []) hk (fun _ h => h.elim) rfl), hA61oldopen⟩, hm0.offA (fun _ h => h) hk (fun _ h => h.elim) (fun _ _ h => h)⟩
  obtain ⟨hP62, hO62old, hO62open, hA62oldopen⟩ := hX62
  refine hgE 8 [oh1, oh1, oh3, oh0, oh1] [4, 11, 132, 133] [tT, tT, tT, tT] [] [.ops drp_n7 [19, 20, 21, 22, 23], .code drp_n8] ⟨[(4, .bool false), (11, .slice A89 j0 c89), (132, .bool true), (133, (pt cb 0))], [], [], W62.heap.size⟩ ?_
  have e63 : againL (within14 57) (⟨200, 7 + (i0 : Int) + (j0 : Int), LB⟩ : CM).opn = LB := by
    show againL (within14 57) LB = LB
    rw [show within14 57 = 57 by simp [within14, minZ, maxZ]]
    exact againL_all (fun o ho => by have := hL o ho; omega)
  refine holds_callV (w := w) (S' := (fun _ => False)) (Y := Option Addr × Nat) (fun (⟨Al, cl⟩ : Option Addr × Nat) => .slice Al j0 cl) (fun (⟨Al, cl⟩ : Option Addr × Nat) => []) (fun (⟨Al, cl⟩ : Option Addr × Nat) W_ => PartyAt 59 61 W_ w.heap.size cb ({ (⟨200, 7 + (i0 : Int) + (j0 : Int), LB⟩ : CM) with opn := againS (within14 57) (⟨200, 7 + (i0 : Int) + (j0 : Int), LB⟩ : CM).opn }) ∧ OwnR W_ w.heap.size 37 26 A88 i0 c88 (lettersC 200 L0) ∧ OwnR W_ w.heap.size 37 26 A89 j0 c89 (lettersC 200 LB) ∧ OwnR W_ w.heap.size 37 26 Al j0 cl (lettersC 200 LB) ∧ (∀ yy, ownS A88 yy → ¬ ownS A89 yy) ∧ (∀ yy, ownS A88 yy → ¬ ownS Al yy) ∧ (∀ yy, ownS A89 yy → ¬ ownS Al yy)) (fun (⟨Al, cl⟩ : Option Addr × Nat) => [(134, .slice Al j0 cl), (4, .bool false), (11, .slice A89 j0 c89), (132, .bool true), (133, (pt cb 0))]) (show _ = some (11, [(pt cb 0), .int .i64 57], some 134, [true = true]) by kernel_rfl) ⟨rfl, trivial⟩ (fun _ => rfl) (fun wx hm => ?_) (fun ⟨A63, c63⟩ W63 hX63 hm63 => ?_)
  · have hm0 := (MemOk.bck hm62 hm)
    refine (again_party 57 (hP62.keptT hm.kept (turned_tys hm62) rfl rfl)).mono fun e w' hq => ?_
    obtain ⟨Al, cl, he, ho, hp, hk⟩ := hq
    rw [e63, hLl] at he ho
    exact ⟨(⟨Al, cl⟩ : Option Addr × Nat), he, ⟨hp, ((hO62old.keptT hm.kept (turned_tys hm62) rfl).keptT (es := [59, 61]) hk (fun _ h => h.2) rfl), ((hO62open.keptT hm.kept (turned_tys hm62) rfl).keptT (es := [59, 61]) hk (fun _ h => h.2) rfl), (ho.below hm0.kept.size), hA62oldopen, (fun y hy hy' => absurd ((hO62old.keptT hm.kept (turned_tys hm62) rfl).own y hy).2 (Nat.not_lt.2 (ho.own y hy').1)), (fun y hy hy' => absurd ((hO62open.keptT hm.kept (turned_tys hm62) rfl).own y hy).2 (Nat.not_lt.2 (ho.own y hy').1))⟩, hm0.offA (fun _ h => h) hk (fun y h => .inr h.1) (off_tys hm (es := [59, 61]) (fun _ h => h.2) rfl)⟩
  obtain ⟨hP63, hO63old, hO63open, hO63l2, hA63oldopen, hA63oldl2, hA63openl2⟩ := hX63
  refine hgE 4 [oh1] [4, 132, 134, 135] [tT] [] [.ops drp_n7 [21, 22, 23], .code drp_n8] ⟨[(4, .bool false), (132, .bool true), (134, .slice A63 j0 c63), (135, .slice A89 j0 c89)], [], [], W63.heap.size⟩ ?_
  refine hcp (.bool true) 12 [.slice A63 j0 c63, .slice A89 j0 c89] (some 136) [true = true] ⟨rfl, trivial⟩ rfl (fun wx hm => letters_same 200 LB A63 A89 j0 c63 c89 w.heap.size w.heap.size hLl (by omega) wx (hO63l2.keptT hm.kept (turned_tys hm63) rfl) (hO63open.keptT hm.kept (turned_tys hm63) rfl)) fun z40 hz40 => ?_
  replace hz40 : W63.heap.size ≤ z40 := hz40
  refine hgE 6 [oh3, oh0] [4] [tT] [] [.code drp_n8] ⟨[(4, .bool true)], [], [], z40⟩ ?_
  refine hrt [] [.bool true] [] ?_
  intro wx hm
  exact ⟨rfl, (MemOk.bck hm63 hm).kept⟩

end Go.Proofs.Ytmeddeaphmpjcaa
