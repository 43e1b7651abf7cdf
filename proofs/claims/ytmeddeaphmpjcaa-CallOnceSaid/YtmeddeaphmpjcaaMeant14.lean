/- Layer 14: the iterator meant. -/
import Derived.Test.YtmeddeaphmpjcaaCallM
import Derived.Test.YtmeddeaphmpjcaaEngK
import Derived.Test.YtmeddeaphmpjcaaEngL
import Derived.Test.YtmeddeaphmpjcaaEngY
import Derived.Test.YtmeddeaphmpjcaaEngZ
import Derived.Test.YtmeddeaphmpjcaaProg
namespace Go.Proofs.Ytmeddeaphmpjcaa
open Go.RowKit

theorem abides_none {β : Type} {B : Nat} {J : β → World → Prop} (h : AbidesFrom B J) {s : β} {W W' : World} (hs : J s W) (hk : Kept (fun _ => False) W W') : J s W' :=
  h s W W' none hs ⟨hk.os, hk.tape, hk.output, hk.size, fun k hk' _ => hk.block k hk' id⟩ (fun _ e => by cases e)
theorem holds_opsNil {D : List Deferred} {P : Program} {body : Code} {n : Nat} {w0 : World} {S : Nat → Prop} {Q : Exit → Act → World → Prop} {p : List Nat} {k : List KI} {st : St} (h : Holds D P body n w0 S Q k st) : Holds D P body n w0 S Q (.ops p [] :: k) st := h
theorem meant_mem {w0 W : World} {tCp tF tC tI : TypeId} {c1 c2 cb nb cp : Nat} {fv : Value} {frm last : Int} {A : Option Addr} {opn : List OneM} {pre : List Nat} {xs : List Value} (h : MeantI w0 tCp tF tC c1 c2 cb fv (fun W => Blk W nb tI xs) frm last A cp opn pre W) (hne : ([c1, c2, nb] : List Nat).Nodup) :
    MemOk w0 (fun _ => True) [⟨c1, tCp, false, [.pointer (some ⟨cb, 0, none⟩)]⟩, ⟨c2, tF, false, [fv]⟩, ⟨nb, tI, false, xs⟩] [] W.heap.size W :=
  ⟨rfl, by simpa using ⟨h.c1, h.c2, h.x⟩, fun _ _ _ => .inl trivial, by simpa using hne, h.kp, fun _ hx => by cases hx⟩
def mag_v1 (o : OneM) : List Value := [.int .i64 o.to, .int .i64 o.id, .int .i64 o.q.kind, .int .i64 o.q.stripe, .int .i64 o.q.epoch, .int .i64 o.q.seq, .int .i64 o.q.mask, .int .i64 o.q.node, .int .i64 o.q.oe, .int .i64 o.q.os, .string o.q.block, .int .i64 o.asked, .int .i64 o.sent]
set_option maxRecDepth 100000 in
set_option maxHeartbeats 4000000 in
theorem okmag_any (o : OneM) (now : Int) (nb : Nat) (hw : -9223372036854775808 ≤ now - o.sent ∧ now - o.sent ≤ 9223372036854775807) (w : World) (hn : Blk w nb 3 [.int .i64 now]) :
    Calls Try.prog 23 #[.agg #[.int .i64 o.to, .int .i64 o.id, .int .i64 o.q.kind, .int .i64 o.q.stripe, .int .i64 o.q.epoch, .int .i64 o.q.seq, .int .i64 o.q.mask, .int .i64 o.q.node, .int .i64 o.q.oe, .int .i64 o.q.os, .string o.q.block, .int .i64 o.asked, .int .i64 o.sent], .pointer (some ⟨nb, 0, none⟩)] w (RetK (.bool (decide (now - o.sent ≥ 2))) w) := by
  refine calls_of_holds (S := (fun _ => False)) (l := [.agg (List.toArray (mag_v1 o)), (pt nb 0)]) (n := 9) Try.func23 (body_of (by kernel_rfl)) rfl (by simp) (MemOk.start (bk := [⟨nb, 3, false, [.int .i64 now]⟩]) (wn := []) (by simpa using hn) (by simp) (by simp) (by simp)) ?_
  refine hgE 17 [oh0, oh0, ⟨false, 0, [⟨false, 0, 0, 1⟩]⟩, oh0, ⟨false, 0, [⟨false, 1, 12, 1⟩]⟩, oh2, oh0, oh0] [3] [n64 ((now - o.sent))] [(nb, 0, 1), (w.heap.size, 12, 1)] [.code [1, 1]] ⟨[(3, .bool (decide (((now - o.sent) : Int) ≥ 2)))], [⟨nb, 3, false, [.int .i64 now]⟩, ⟨w.heap.size, 61, true, (mag_v1 o)⟩], [], w.heap.size + 1⟩ ?_
  refine hrt [] [.bool (decide (((now - o.sent) : Int) ≥ 2))] [] ?_
  intro wx hm
  exact ⟨rfl, hm.kept⟩

def mlt_v1 (o : OneM) : List Value := [.int .i64 o.to, .int .i64 o.id, .int .i64 o.q.kind, .int .i64 o.q.stripe, .int .i64 o.q.epoch, .int .i64 o.q.seq, .int .i64 o.q.mask, .int .i64 o.q.node, .int .i64 o.q.oe, .int .i64 o.q.os, .string o.q.block, .int .i64 o.asked, .int .i64 o.sent]
set_option maxRecDepth 100000 in
set_option maxHeartbeats 4000000 in
theorem okmlt_any (o : OneM) (now : Int) (nb : Nat) (hw : -9223372036854775808 ≤ now - o.asked ∧ now - o.asked ≤ 9223372036854775807) (w : World) (hn : Blk w nb 3 [.int .i64 now]) :
    Calls Try.prog 24 #[.agg #[.int .i64 o.to, .int .i64 o.id, .int .i64 o.q.kind, .int .i64 o.q.stripe, .int .i64 o.q.epoch, .int .i64 o.q.seq, .int .i64 o.q.mask, .int .i64 o.q.node, .int .i64 o.q.oe, .int .i64 o.q.os, .string o.q.block, .int .i64 o.asked, .int .i64 o.sent], .pointer (some ⟨nb, 0, none⟩)] w (RetK (.bool (decide (now - o.asked ≥ 8))) w) := by
  refine calls_of_holds (S := (fun _ => False)) (l := [.agg (List.toArray (mlt_v1 o)), (pt nb 0)]) (n := 9) Try.func24 (body_of (by kernel_rfl)) rfl (by simp) (MemOk.start (bk := [⟨nb, 3, false, [.int .i64 now]⟩]) (wn := []) (by simpa using hn) (by simp) (by simp) (by simp)) ?_
  refine hgE 17 [oh0, oh0, ⟨false, 0, [⟨false, 0, 0, 1⟩]⟩, oh0, ⟨false, 0, [⟨false, 1, 11, 1⟩]⟩, oh2, oh0, oh0] [3] [n64 ((now - o.asked))] [(nb, 0, 1), (w.heap.size, 11, 1)] [.code [1, 1]] ⟨[(3, .bool (decide (((now - o.asked) : Int) ≥ 8)))], [⟨nb, 3, false, [.int .i64 now]⟩, ⟨w.heap.size, 61, true, (mlt_v1 o)⟩], [], w.heap.size + 1⟩ ?_
  refine hrt [] [.bool (decide (((now - o.asked) : Int) ≥ 8))] [] ?_
  intro wx hm
  exact ⟨rfl, hm.kept⟩

def man_v1 (o : OneM) : List Value := [.int .i64 o.to, .int .i64 o.id, .int .i64 o.q.kind, .int .i64 o.q.stripe, .int .i64 o.q.epoch, .int .i64 o.q.seq, .int .i64 o.q.mask, .int .i64 o.q.node, .int .i64 o.q.oe, .int .i64 o.q.os, .string o.q.block, .int .i64 o.asked, .int .i64 o.sent]
def man_v2 (lf : Int) (lt : Int) (lid : Int) : List Value := [.int .i64 lf, .int .i64 lt, .int .i64 lid, .bool true, .int .i64 0, .int .i64 0, .int .i64 0, .int .i64 0, .int .i64 0, .int .i64 0, .int .i64 0, .int .i64 0, .string ⟨#[]⟩, .int .i64 0, .int .i64 0, .int .i64 0, .bool false, .int .i64 0, .int .i64 0, .int .i64 0, .string ⟨#[]⟩, .bool false, .int .i64 0, .int .i64 0, .int .i64 0, .string ⟨#[]⟩]
set_option maxRecDepth 100000 in
set_option maxHeartbeats 4000000 in
theorem okman_any (o : OneM) (lf lt lid : Int) (nb : Nat) (w : World) (hn : Blk w nb 37 [.int .i64 lf, .int .i64 lt, .int .i64 lid, .bool true, .int .i64 0, .int .i64 0, .int .i64 0, .int .i64 0, .int .i64 0, .int .i64 0, .int .i64 0, .int .i64 0, .string ⟨#[]⟩, .int .i64 0, .int .i64 0, .int .i64 0, .bool false, .int .i64 0, .int .i64 0, .int .i64 0, .string ⟨#[]⟩, .bool false, .int .i64 0, .int .i64 0, .int .i64 0, .string ⟨#[]⟩]) :
    Calls Try.prog 21 #[.agg #[.int .i64 o.to, .int .i64 o.id, .int .i64 o.q.kind, .int .i64 o.q.stripe, .int .i64 o.q.epoch, .int .i64 o.q.seq, .int .i64 o.q.mask, .int .i64 o.q.node, .int .i64 o.q.oe, .int .i64 o.q.os, .string o.q.block, .int .i64 o.asked, .int .i64 o.sent], .pointer (some ⟨nb, 0, none⟩)] w (RetK (.bool ((o.id == lid) && (o.to == lf))) w) := by
  refine calls_of_holds (S := (fun _ => False)) (l := [.agg (List.toArray (man_v1 o)), (pt nb 0)]) (n := 16) Try.func21 (body_of (by kernel_rfl)) rfl (by simp) (MemOk.start (bk := [⟨nb, 37, false, (man_v2 lf lt lid)⟩]) (wn := []) (fun b hb => by obtain rfl := List.mem_singleton.1 hb; exact hn) (by simp) (by simp) (by simp)) ?_
  rcases Bool.eq_false_or_eq_true (o.id == lid) with d1 | d1
  · skip
    refine hgE 24 [oh0, oh0, oh0, ⟨false, 0, [⟨false, 1, 1, 1⟩]⟩, oh0, ⟨false, 0, [⟨false, 0, 2, 1⟩]⟩, oh0, oh0, oh1, ⟨true, 0, [⟨false, 1, 0, 1⟩]⟩, oh1, ⟨true, 0, [⟨false, 0, 0, 1⟩]⟩, oh1, oh3, oh0] [3] [eD d1, eD d1, eD d1, eD d1, eD d1, eD d1] [(w.heap.size, 1, 1), (nb, 2, 1), (w.heap.size, 0, 1), (nb, 0, 1)] [.code [1, 1]] ⟨[(3, .bool (o.to == lf))], [⟨nb, 37, false, (man_v2 lf lt lid)⟩, ⟨w.heap.size, 61, true, (man_v1 o)⟩], [], w.heap.size + 1⟩ ?_
    refine hrt [] [.bool (o.to == lf)] [] ?_
    intro wx hm
    exact ⟨by rw [d1]; rfl, hm.kept⟩
  · skip
    refine hgE 24 [oh0, oh0, oh0, ⟨false, 0, [⟨false, 1, 1, 1⟩]⟩, oh0, ⟨false, 0, [⟨false, 0, 2, 1⟩]⟩, oh0, oh0, oh0, oh0, oh0, oh0, oh0, ⟨false, 3, []⟩, oh0] [3] [eD d1, eD d1, eD d1, eD d1, eD d1, eD d1] [(w.heap.size, 1, 1), (nb, 2, 1)] [.code [1, 1]] ⟨[(3, .bool false)], [⟨nb, 37, false, (man_v2 lf lt lid)⟩, ⟨w.heap.size, 61, true, (man_v1 o)⟩], [], w.heap.size + 1⟩ ?_
    refine hrt [] [.bool false] [] ?_
    intro wx hm
    exact ⟨by rw [d1]; rfl, hm.kept⟩

set_option maxRecDepth 100000 in
set_option maxHeartbeats 4000000 in
theorem meantAgain_seq (w0 : World) (c1 c2 cb nb cp n : Nat) (frm lst now : Int) (A : Option Addr) (opn : List OneM) (hn : opn.length = n) (hn8 : n ≤ 1000) (hne : ([c1, c2, nb] : List Nat).Nodup) (hcb : cb ≠ c1 ∧ cb ≠ c2 ∧ cb ≠ nb) (hbd : ∀ (j : Nat) (o : OneM), opn[j]? = some o → -9223372036854775808 ≤ now - o.sent ∧ now - o.sent ≤ 9223372036854775807) :
    SeqI 4 Try.prog 29 #[.pointer (some ⟨c1, 0, none⟩), .pointer (some ⟨c2, 0, none⟩)] (fun j : Nat => #[.int .i64 (j : Int)]) (MeantI w0 24 66 59 c1 c2 cb (.func (.func 23) #[] #[.pointer (some ⟨nb, 0, none⟩)]) (fun W => Blk W nb 3 [.int .i64 now]) frm lst A cp opn) (fun xs => xs = meantL (fun o : OneM => decide (now - o.sent ≥ 2)) opn opn.length) (MeantSp (fun o : OneM => decide (now - o.sent ≥ 2)) opn) (MeantV (fun o : OneM => decide (now - o.sent ≥ 2)) opn) := by
  intro l J Jx W hInv hJ hJx hY h0
  have hI := hInv _ _ h0
  have hc := hI.hd rfl
  rw [hn] at hc
  refine callsIn_wide.2 (calls_of_holds (S := (fun _ => False)) (l := [.func (.yield l) #[] #[], .pointer (some ⟨c1, 0, none⟩), .pointer (some ⟨c2, 0, none⟩)]) (n := 26) (bk := [⟨c1, 24, false, [.pointer (some ⟨cb, 0, none⟩)]⟩, ⟨c2, 66, false, [.func (.func 23) #[] #[.pointer (some ⟨nb, 0, none⟩)]]⟩, ⟨nb, 3, false, [.int .i64 now]⟩, ⟨cb, 59, false, [.int .i64 frm, .int .i64 lst, .slice A n cp]⟩]) (wn := []) Try.func29 (body_of (by kernel_rfl)) rfl (by simp) (MemOk.start (by simpa using ⟨hI.c1, hI.c2, hI.x, hc⟩) (by simp) (by simp at hne ⊢; omega) (by simp)) ?_)
  refine holds_go (f := 13) (hs := [⟨false, 0, [⟨false, 0, 0, 1⟩]⟩, ⟨false, 0, []⟩, ⟨false, 0, []⟩, ⟨false, 0, [⟨false, 3, 2, 1⟩]⟩, ⟨false, 0, []⟩, ⟨false, 0, []⟩]) [0, 2, 9, 10, 11] [] (show _ = some (Res.mk [] (dupR [(c1, 0, 1), (cb, 2, 1)]) [.code [1, 0], .blk 0] ⟨[(0, .func (.yield l) #[] #[]), (2, .pointer (some ⟨c2, 0, none⟩)), (9, .slice A n cp), (10, .int .i64 (n : Int)), (11, .int .i64 0)], [⟨c1, 24, false, [.pointer (some ⟨cb, 0, none⟩)]⟩, ⟨c2, 66, false, [.func (.func 23) #[] #[.pointer (some ⟨nb, 0, none⟩)]]⟩, ⟨nb, 3, false, [.int .i64 now]⟩, ⟨cb, 59, false, [.int .i64 frm, .int .i64 lst, .slice A n cp]⟩], [], W.heap.size⟩) by kernel_rfl) trivial ?_
  have hI0 := hInv _ _ h0
  refine holds_prune [0, 2, 9, 10, 11] [true, true, true, false] ?_
  refine holds_loopW (w := w0) (S' := fun _ => True) (fun m st W1 => ∃ j z : Nat, m + j = n ∧ J (meantL (fun o : OneM => decide (now - o.sent ≥ 2)) opn j) W1 ∧ st = ⟨[(0, .func (.yield l) #[] #[]), (2, .pointer (some ⟨c2, 0, none⟩)), (9, .slice A n cp), (10, .int .i64 (n : Int)), (11, .int .i64 (j : Int))], [⟨c1, 24, false, [.pointer (some ⟨cb, 0, none⟩)]⟩, ⟨c2, 66, false, [.func (.func 23) #[] #[.pointer (some ⟨nb, 0, none⟩)]]⟩, ⟨nb, 3, false, [.int .i64 now]⟩], [], z⟩) n (by kernel_rfl) (fun W1 hm => ⟨⟨0, _, by omega, abides_none hJ h0 hm.kept, rfl⟩, by have h := meant_mem (hInv _ _ (abides_none hJ h0 hm.kept)) hne; rwa [hm.size] at h⟩) ?_
  rintro m _ W1 ⟨j, z, hmj, hj1, rfl⟩ hm1 JL hJL
  have hI1 := hInv _ _ hj1
  have hnT : ∀ x, ¬ Turned [⟨c1, 24, false, [.pointer (some ⟨cb, 0, none⟩)]⟩, ⟨c2, 66, false, [.func (.func 23) #[] #[.pointer (some ⟨nb, 0, none⟩)]]⟩, ⟨nb, 3, false, [.int .i64 now]⟩] x := by
    rintro x ⟨b, hb, hr, he⟩
    simp at hb
    rcases hb with rfl | rfl | rfl <;> simp at hr
  by_cases h1 : j < n
  rotate_left
  · skip
    refine holds_go (f := 10) (hs := [⟨false, 0, []⟩, ⟨false, 0, []⟩]) [] [] (show _ = some (Res.mk [(decide (((j : Int) : Int) < (n : Int))) = false] (dupR []) [] ⟨[], [⟨c1, 24, false, [.pointer (some ⟨cb, 0, none⟩)]⟩, ⟨c2, 66, false, [.func (.func 23) #[] #[.pointer (some ⟨nb, 0, none⟩)]]⟩, ⟨nb, 3, false, [.int .i64 now]⟩], [], W1.heap.size⟩) by kernel_rfl) ⟨decide_eq_false (by omega), trivial⟩ ?_
    refine holds_end [] (show _ = some ([], dupR []) by kernel_rfl) ?_
    intro wx hm
    have hjn : j = opn.length := by omega
    rw [hjn] at hj1
    exact ⟨⟨_, rfl⟩, .inl ⟨_, rfl, abides_none hJ hj1 (hm.kept.mono (fun x _ h => (hnT x h).elim))⟩⟩
  obtain ⟨o, ho⟩ : ∃ o, opn[j]? = some o := ⟨_, List.getElem?_eq_getElem (by omega)⟩
  obtain ⟨ga, hA, hg, hcell⟩ := hI1.arr j o ho meantL_lt
  subst hA
  have hbo := hbd j o ho
  refine holds_wins [⟨ga, 0 + j * 13, o.cells⟩] (fun _ y hy => ?_) ?_
  · simp only [List.mem_cons, List.not_mem_nil, or_false] at hy
    subst hy
    exact ⟨hnT _, hg, fun i v hv => hcell i v hv⟩
  refine holds_codeY 4 ?_
  intro J3 Qn hJ3 hQ3
  refine holdsR_go (fun _ => trivial) (f := 25) (hs := [⟨false, 0, []⟩, ⟨true, 0, []⟩, ⟨false, 0, []⟩, ⟨false, 1, []⟩, ⟨false, 0, [⟨true, 0, 0, 13⟩]⟩, ⟨false, 0, []⟩, ⟨false, 0, []⟩, ⟨false, 0, [⟨false, 3, 0, 13⟩]⟩, ⟨false, 0, [⟨false, 1, 0, 1⟩]⟩, ⟨false, 0, [⟨false, 3, 0, 13⟩]⟩]) [0, 2, 4, 9, 10, 11, 16, 17] [] (show _ = some (Res.mk [(decide (((j : Int) : Int) < (n : Int))) = true, (0 : Int) ≤ (j : Int) ∧ (j : Int) < ((n : Nat) : Int)] (dupR [(ga, 0 + j * 13, 13), (W1.heap.size, 0, 13), (c2, 0, 1), (W1.heap.size, 0, 13)]) [.ops [1, 0, 0, 1, 1, 0, 0, 1, 0] [2, 3, 4, 5, 6, 7, 8], .code [1, 0, 0, 1, 1, 0, 0, 1, 1], .blk 1, .code [1, 0, 0, 1, 1, 1], .inv J3] ⟨[(0, .func (.yield l) #[] #[]), (2, .pointer (some ⟨c2, 0, none⟩)), (4, .int .i64 (j : Int)), (9, .slice (some ⟨ga, 0, none⟩) n cp), (10, .int .i64 (n : Int)), (11, .int .i64 (j : Int)), (16, .func (.func 23) #[] #[.pointer (some ⟨nb, 0, none⟩)]), (17, .agg #[.int .i64 o.to, .int .i64 o.id, .int .i64 o.q.kind, .int .i64 o.q.stripe, .int .i64 o.q.epoch, .int .i64 o.q.seq, .int .i64 o.q.mask, .int .i64 o.q.node, .int .i64 o.q.oe, .int .i64 o.q.os, .string o.q.block, .int .i64 o.asked, .int .i64 o.sent])], [⟨c1, 24, false, [.pointer (some ⟨cb, 0, none⟩)]⟩, ⟨c2, 66, false, [.func (.func 23) #[] #[.pointer (some ⟨nb, 0, none⟩)]]⟩, ⟨nb, 3, false, [.int .i64 now]⟩, ⟨W1.heap.size, 61, true, [.int .i64 o.to, .int .i64 o.id, .int .i64 o.q.kind, .int .i64 o.q.stripe, .int .i64 o.q.epoch, .int .i64 o.q.seq, .int .i64 o.q.mask, .int .i64 o.q.node, .int .i64 o.q.oe, .int .i64 o.q.os, .string o.q.block, .int .i64 o.asked, .int .i64 o.sent]⟩], [⟨ga, 0 + j * 13, [.int .i64 o.to, .int .i64 o.id, .int .i64 o.q.kind, .int .i64 o.q.stripe, .int .i64 o.q.epoch, .int .i64 o.q.seq, .int .i64 o.q.mask, .int .i64 o.q.node, .int .i64 o.q.oe, .int .i64 o.q.os, .string o.q.block, .int .i64 o.asked, .int .i64 o.sent]⟩], W1.heap.size + 1⟩) by kernel_rfl) ⟨decide_eq_true (by omega), ⟨by omega, by omega⟩, trivial⟩ ?_
  refine holdsR_op (r := none) (by kernel_rfl) ?_
  intro J4 hJ4
  refine holds_callP (.bool (decide (now - o.sent ≥ 2))) (show _ = some (23, [.agg #[.int .i64 o.to, .int .i64 o.id, .int .i64 o.q.kind, .int .i64 o.q.stripe, .int .i64 o.q.epoch, .int .i64 o.q.seq, .int .i64 o.q.mask, .int .i64 o.q.node, .int .i64 o.q.oe, .int .i64 o.q.os, .string o.q.block, .int .i64 o.asked, .int .i64 o.sent], .pointer (some ⟨nb, 0, none⟩)], some 18, []) by kernel_rfl) trivial rfl (fun wx hm => okmag_any o now nb hbo wx (hm.at_ 2 rfl)) fun z5 hz5 => ?_
  replace hz5 : W1.heap.size + 1 ≤ z5 := hz5
  refine holds_opsNil ?_
  refine hJ4 _ _ _ ?_
  rcases Bool.eq_false_or_eq_true (decide (now - o.sent ≥ 2)) with d1 | d1
  rotate_left
  · skip
    refine holdsR_go (fun _ => trivial) (f := 17) (hs := [⟨false, 0, []⟩, ⟨false, 0, []⟩, ⟨false, 0, []⟩, ⟨false, 0, []⟩, ⟨false, 0, []⟩, ⟨false, 3, []⟩, ⟨false, 0, []⟩, ⟨false, 1, []⟩, ⟨false, 0, []⟩]) [0, 2, 9, 10, 11] [] (show _ = some (Res.mk [(decide (now - o.sent ≥ 2)) = false, (decide (now - o.sent ≥ 2)) = false, (decide (now - o.sent ≥ 2)) = false, (decide (now - o.sent ≥ 2)) = false, (decide (now - o.sent ≥ 2)) = false, false = false, inR .i64 (((j : Int) + 1))] (dupR []) [.inv J3] ⟨[(0, .func (.yield l) #[] #[]), (2, .pointer (some ⟨c2, 0, none⟩)), (9, .slice (some ⟨ga, 0, none⟩) n cp), (10, .int .i64 (n : Int)), (11, .int .i64 ((j : Int) + 1))], [⟨c1, 24, false, [.pointer (some ⟨cb, 0, none⟩)]⟩, ⟨c2, 66, false, [.func (.func 23) #[] #[.pointer (some ⟨nb, 0, none⟩)]]⟩, ⟨nb, 3, false, [.int .i64 now]⟩, ⟨W1.heap.size, 61, true, [.int .i64 o.to, .int .i64 o.id, .int .i64 o.q.kind, .int .i64 o.q.stripe, .int .i64 o.q.epoch, .int .i64 o.q.seq, .int .i64 o.q.mask, .int .i64 o.q.node, .int .i64 o.q.oe, .int .i64 o.q.os, .string o.q.block, .int .i64 o.asked, .int .i64 o.sent]⟩], [⟨ga, 0 + j * 13, [.int .i64 o.to, .int .i64 o.id, .int .i64 o.q.kind, .int .i64 o.q.stripe, .int .i64 o.q.epoch, .int .i64 o.q.seq, .int .i64 o.q.mask, .int .i64 o.q.node, .int .i64 o.q.oe, .int .i64 o.q.os, .string o.q.block, .int .i64 o.asked, .int .i64 o.sent]⟩], z5⟩) by kernel_rfl) ⟨d1, d1, d1, d1, d1, rfl, in64 (by omega), trivial⟩ ?_
    refine hJ3 _ _ _ ?_
    refine holds_go (f := 3) (hs := []) [0, 2, 9, 10, 11] [] (show _ = some (Res.mk [] (dupR []) [.inv JL, .blk 0] ⟨[(0, .func (.yield l) #[] #[]), (2, .pointer (some ⟨c2, 0, none⟩)), (9, .slice (some ⟨ga, 0, none⟩) n cp), (10, .int .i64 (n : Int)), (11, .int .i64 ((j : Int) + 1))], [⟨c1, 24, false, [.pointer (some ⟨cb, 0, none⟩)]⟩, ⟨c2, 66, false, [.func (.func 23) #[] #[.pointer (some ⟨nb, 0, none⟩)]]⟩, ⟨nb, 3, false, [.int .i64 now]⟩, ⟨W1.heap.size, 61, true, [.int .i64 o.to, .int .i64 o.id, .int .i64 o.q.kind, .int .i64 o.q.stripe, .int .i64 o.q.epoch, .int .i64 o.q.seq, .int .i64 o.q.mask, .int .i64 o.q.node, .int .i64 o.q.oe, .int .i64 o.q.os, .string o.q.block, .int .i64 o.asked, .int .i64 o.sent]⟩], [⟨ga, 0 + j * 13, [.int .i64 o.to, .int .i64 o.id, .int .i64 o.q.kind, .int .i64 o.q.stripe, .int .i64 o.q.epoch, .int .i64 o.q.seq, .int .i64 o.q.mask, .int .i64 o.q.node, .int .i64 o.q.oe, .int .i64 o.q.os, .string o.q.block, .int .i64 o.asked, .int .i64 o.sent]⟩], z5⟩) by kernel_rfl) trivial ?_
    refine holds_wins [] (fun _ _ h => by cases h) ?_
    refine holds_prune [0, 2, 9, 10, 11] [true, true, true, false] ?_
    intro a_ w4 hf hm
    have hk4 : Kept (fun _ => False) W1 w4 := hm.kept.mono (fun x _ h => (hnT x h).elim)
    have hj4 : J (meantL (fun o : OneM => decide (now - o.sent ≥ 2)) opn (j + 1)) w4 := by rw [meantL_succ ho, d1]; exact abides_none hJ hj1 hk4
    exact hJL (m - 1) _ a_ w4 (by omega) ⟨j + 1, _, by omega, hj4, by rw [← cast_succ j]; rfl⟩ hf (by have h := meant_mem (hInv _ _ hj4) hne; rw [hm.size] at h; exact h)
  refine holdsR_go (fun _ => trivial) (f := 6) (hs := [⟨false, 0, []⟩, ⟨true, 0, []⟩, ⟨true, 0, []⟩]) [0, 2, 9, 10, 11, 19, 20, 21] [] (show _ = some (Res.mk [(decide (now - o.sent ≥ 2)) = true, (decide (now - o.sent ≥ 2)) = true] (dupR []) [.ops [1, 0, 0, 1, 1, 0, 0, 1, 0] [6, 7, 8], .code [1, 0, 0, 1, 1, 0, 0, 1, 1], .blk 1, .code [1, 0, 0, 1, 1, 1], .inv J3] ⟨[(0, .func (.yield l) #[] #[]), (2, .pointer (some ⟨c2, 0, none⟩)), (9, .slice (some ⟨ga, 0, none⟩) n cp), (10, .int .i64 (n : Int)), (11, .int .i64 (j : Int)), (19, .bool (decide (now - o.sent ≥ 2))), (20, .func (.yield l) #[] #[]), (21, .int .i64 (j : Int))], [⟨c1, 24, false, [.pointer (some ⟨cb, 0, none⟩)]⟩, ⟨c2, 66, false, [.func (.func 23) #[] #[.pointer (some ⟨nb, 0, none⟩)]]⟩, ⟨nb, 3, false, [.int .i64 now]⟩, ⟨W1.heap.size, 61, true, [.int .i64 o.to, .int .i64 o.id, .int .i64 o.q.kind, .int .i64 o.q.stripe, .int .i64 o.q.epoch, .int .i64 o.q.seq, .int .i64 o.q.mask, .int .i64 o.q.node, .int .i64 o.q.oe, .int .i64 o.q.os, .string o.q.block, .int .i64 o.asked, .int .i64 o.sent]⟩], [⟨ga, 0 + j * 13, [.int .i64 o.to, .int .i64 o.id, .int .i64 o.q.kind, .int .i64 o.q.stripe, .int .i64 o.q.epoch, .int .i64 o.q.seq, .int .i64 o.q.mask, .int .i64 o.q.node, .int .i64 o.q.oe, .int .i64 o.q.os, .string o.q.block, .int .i64 o.asked, .int .i64 o.sent]⟩], z5⟩) by kernel_rfl) ⟨d1, d1, trivial⟩ ?_
  refine holdsR_yield (l := [7, 8]) (dst := some 22) (lp := l) (args := #[.int .i64 (j : Int)]) (c := true) (gd := (some 3)) (fun _ => trivial) rfl (by kernel_rfl) (by kernel_rfl) (by intro j hj; cases hj; exact congrArg (fun b => some (Value.bool b)) d1) (fun _ => rfl) (fun wx hm => ?_)
  have hk4 : Kept (fun _ => False) W1 wx := hm.kept.mono (fun x _ h => (hnT x h).elim)
  refine YieldAt.mono (hY (meantL (fun o : OneM => decide (now - o.sent ≥ 2)) opn j) j wx (abides_none hJ hj1 hk4) ⟨o, ho, d1, rfl⟩) (fun e W2 he => ?_)
  rcases he with ⟨rfl, g1⟩ | ⟨rfl, g1⟩
  · skip
    have hI2 := hInv _ _ g1
    refine ⟨.bool true, [(22, .bool true), (0, .func (.yield l) #[] #[]), (2, .pointer (some ⟨c2, 0, none⟩)), (9, .slice (some ⟨ga, 0, none⟩) n cp), (10, .int .i64 (n : Int)), (11, .int .i64 (j : Int)), (19, .bool (decide (now - o.sent ≥ 2))), (20, .func (.yield l) #[] #[]), (21, .int .i64 (j : Int))], rfl, rfl, [⟨c1, 24, false, [.pointer (some ⟨cb, 0, none⟩)]⟩, ⟨c2, 66, false, [.func (.func 23) #[] #[.pointer (some ⟨nb, 0, none⟩)]]⟩, ⟨nb, 3, false, [.int .i64 now]⟩], [], (fun _ => False), MemOk.start (by simpa using ⟨hI2.c1, hI2.c2, hI2.x⟩) (by simp) (by simpa using hne) (by simp), ?_⟩
    refine holdsR_go (fun _ => trivial) (f := 13) (hs := [⟨true, 0, []⟩, ⟨false, 2, []⟩, ⟨false, 0, []⟩, ⟨false, 1, []⟩, ⟨false, 0, []⟩]) [0, 2, 9, 10, 11] [] (show _ = some (Res.mk [(decide (now - o.sent ≥ 2)) = true, (decide (now - o.sent ≥ 2)) = true, false = false, inR .i64 (((j : Int) + 1))] (dupR []) [.inv J3] ⟨[(0, .func (.yield l) #[] #[]), (2, .pointer (some ⟨c2, 0, none⟩)), (9, .slice (some ⟨ga, 0, none⟩) n cp), (10, .int .i64 (n : Int)), (11, .int .i64 ((j : Int) + 1))], [⟨c1, 24, false, [.pointer (some ⟨cb, 0, none⟩)]⟩, ⟨c2, 66, false, [.func (.func 23) #[] #[.pointer (some ⟨nb, 0, none⟩)]]⟩, ⟨nb, 3, false, [.int .i64 now]⟩], [], W2.heap.size⟩) by kernel_rfl) ⟨d1, d1, rfl, in64 (by omega), trivial⟩ ?_
    refine hJ3 _ _ _ ?_
    refine holds_go (f := 3) (hs := []) [0, 2, 9, 10, 11] [] (show _ = some (Res.mk [] (dupR []) [.inv JL, .blk 0] ⟨[(0, .func (.yield l) #[] #[]), (2, .pointer (some ⟨c2, 0, none⟩)), (9, .slice (some ⟨ga, 0, none⟩) n cp), (10, .int .i64 (n : Int)), (11, .int .i64 ((j : Int) + 1))], [⟨c1, 24, false, [.pointer (some ⟨cb, 0, none⟩)]⟩, ⟨c2, 66, false, [.func (.func 23) #[] #[.pointer (some ⟨nb, 0, none⟩)]]⟩, ⟨nb, 3, false, [.int .i64 now]⟩], [], W2.heap.size⟩) by kernel_rfl) trivial ?_
    intro a_ w4 hf hm
    have hj4 : J (meantL (fun o : OneM => decide (now - o.sent ≥ 2)) opn (j + 1)) w4 := by rw [meantL_succ ho, d1]; exact abides_none hJ g1 hm.kept
    exact hJL (m - 1) _ a_ w4 (by omega) ⟨j + 1, _, by omega, hj4, by rw [← cast_succ j]⟩ hf (by have h := meant_mem (hInv _ _ hj4) hne; rw [hm.size] at h; exact h)
  · skip
    refine ⟨.bool false, [(22, .bool false), (0, .func (.yield l) #[] #[]), (2, .pointer (some ⟨c2, 0, none⟩)), (9, .slice (some ⟨ga, 0, none⟩) n cp), (10, .int .i64 (n : Int)), (11, .int .i64 (j : Int)), (19, .bool (decide (now - o.sent ≥ 2))), (20, .func (.yield l) #[] #[]), (21, .int .i64 (j : Int))], rfl, rfl, [], [], (fun _ => False), MemOk.none _ _, ?_⟩
    refine holdsR_go (fun _ => trivial) (f := 7) (hs := [⟨true, 0, []⟩, ⟨false, 2, []⟩, ⟨true, 0, []⟩]) [0, 2, 9, 10, 11] [] (show _ = some (Res.mk [(decide (now - o.sent ≥ 2)) = true, (decide (now - o.sent ≥ 2)) = true, true = true] (dupR []) [.code [1, 0, 0, 1, 1, 0, 0, 1, 1, 0], .blk 1, .code [1, 0, 0, 1, 1, 1], .inv J3] ⟨[(0, .func (.yield l) #[] #[]), (2, .pointer (some ⟨c2, 0, none⟩)), (9, .slice (some ⟨ga, 0, none⟩) n cp), (10, .int .i64 (n : Int)), (11, .int .i64 (j : Int))], [], [], W2.heap.size⟩) by kernel_rfl) ⟨d1, d1, rfl, trivial⟩ ?_
    refine holdsR_ret (by kernel_rfl) (fun a_ w4 hf hm => hQ3 _ _ ?_)
    exact ⟨hf.df, _, results_of (vs := []) (rs := []) (hs := []) hf hm (by kernel_rfl), ⟨_, rfl⟩, .inr ⟨_, ⟨j, o, ho, d1, rfl⟩, abides_none hJx g1 hm.kept⟩⟩

set_option maxRecDepth 100000 in
set_option maxHeartbeats 4000000 in
theorem meantLate_seq (w0 : World) (c1 c2 cb nb cp n : Nat) (frm lst now : Int) (A : Option Addr) (opn : List OneM) (hn : opn.length = n) (hn8 : n ≤ 1000) (hne : ([c1, c2, nb] : List Nat).Nodup) (hcb : cb ≠ c1 ∧ cb ≠ c2 ∧ cb ≠ nb) (hbd : ∀ (j : Nat) (o : OneM), opn[j]? = some o → -9223372036854775808 ≤ now - o.asked ∧ now - o.asked ≤ 9223372036854775807) :
    SeqI 4 Try.prog 29 #[.pointer (some ⟨c1, 0, none⟩), .pointer (some ⟨c2, 0, none⟩)] (fun j : Nat => #[.int .i64 (j : Int)]) (MeantI w0 24 66 59 c1 c2 cb (.func (.func 24) #[] #[.pointer (some ⟨nb, 0, none⟩)]) (fun W => Blk W nb 3 [.int .i64 now]) frm lst A cp opn) (fun xs => xs = meantL (fun o : OneM => decide (now - o.asked ≥ 8)) opn opn.length) (MeantSp (fun o : OneM => decide (now - o.asked ≥ 8)) opn) (MeantV (fun o : OneM => decide (now - o.asked ≥ 8)) opn) := by
  intro l J Jx W hInv hJ hJx hY h0
  have hI := hInv _ _ h0
  have hc := hI.hd rfl
  rw [hn] at hc
  refine callsIn_wide.2 (calls_of_holds (S := (fun _ => False)) (l := [.func (.yield l) #[] #[], .pointer (some ⟨c1, 0, none⟩), .pointer (some ⟨c2, 0, none⟩)]) (n := 26) (bk := [⟨c1, 24, false, [.pointer (some ⟨cb, 0, none⟩)]⟩, ⟨c2, 66, false, [.func (.func 24) #[] #[.pointer (some ⟨nb, 0, none⟩)]]⟩, ⟨nb, 3, false, [.int .i64 now]⟩, ⟨cb, 59, false, [.int .i64 frm, .int .i64 lst, .slice A n cp]⟩]) (wn := []) Try.func29 (body_of (by kernel_rfl)) rfl (by simp) (MemOk.start (by simpa using ⟨hI.c1, hI.c2, hI.x, hc⟩) (by simp) (by simp at hne ⊢; omega) (by simp)) ?_)
  refine holds_go (f := 13) (hs := [⟨false, 0, [⟨false, 0, 0, 1⟩]⟩, ⟨false, 0, []⟩, ⟨false, 0, []⟩, ⟨false, 0, [⟨false, 3, 2, 1⟩]⟩, ⟨false, 0, []⟩, ⟨false, 0, []⟩]) [0, 2, 9, 10, 11] [] (show _ = some (Res.mk [] (dupR [(c1, 0, 1), (cb, 2, 1)]) [.code [1, 0], .blk 0] ⟨[(0, .func (.yield l) #[] #[]), (2, .pointer (some ⟨c2, 0, none⟩)), (9, .slice A n cp), (10, .int .i64 (n : Int)), (11, .int .i64 0)], [⟨c1, 24, false, [.pointer (some ⟨cb, 0, none⟩)]⟩, ⟨c2, 66, false, [.func (.func 24) #[] #[.pointer (some ⟨nb, 0, none⟩)]]⟩, ⟨nb, 3, false, [.int .i64 now]⟩, ⟨cb, 59, false, [.int .i64 frm, .int .i64 lst, .slice A n cp]⟩], [], W.heap.size⟩) by kernel_rfl) trivial ?_
  have hI0 := hInv _ _ h0
  refine holds_prune [0, 2, 9, 10, 11] [true, true, true, false] ?_
  refine holds_loopW (w := w0) (S' := fun _ => True) (fun m st W1 => ∃ j z : Nat, m + j = n ∧ J (meantL (fun o : OneM => decide (now - o.asked ≥ 8)) opn j) W1 ∧ st = ⟨[(0, .func (.yield l) #[] #[]), (2, .pointer (some ⟨c2, 0, none⟩)), (9, .slice A n cp), (10, .int .i64 (n : Int)), (11, .int .i64 (j : Int))], [⟨c1, 24, false, [.pointer (some ⟨cb, 0, none⟩)]⟩, ⟨c2, 66, false, [.func (.func 24) #[] #[.pointer (some ⟨nb, 0, none⟩)]]⟩, ⟨nb, 3, false, [.int .i64 now]⟩], [], z⟩) n (by kernel_rfl) (fun W1 hm => ⟨⟨0, _, by omega, abides_none hJ h0 hm.kept, rfl⟩, by have h := meant_mem (hInv _ _ (abides_none hJ h0 hm.kept)) hne; rwa [hm.size] at h⟩) ?_
  rintro m _ W1 ⟨j, z, hmj, hj1, rfl⟩ hm1 JL hJL
  have hI1 := hInv _ _ hj1
  have hnT : ∀ x, ¬ Turned [⟨c1, 24, false, [.pointer (some ⟨cb, 0, none⟩)]⟩, ⟨c2, 66, false, [.func (.func 24) #[] #[.pointer (some ⟨nb, 0, none⟩)]]⟩, ⟨nb, 3, false, [.int .i64 now]⟩] x := by
    rintro x ⟨b, hb, hr, he⟩
    simp at hb
    rcases hb with rfl | rfl | rfl <;> simp at hr
  by_cases h1 : j < n
  rotate_left
  · skip
    refine holds_go (f := 10) (hs := [⟨false, 0, []⟩, ⟨false, 0, []⟩]) [] [] (show _ = some (Res.mk [(decide (((j : Int) : Int) < (n : Int))) = false] (dupR []) [] ⟨[], [⟨c1, 24, false, [.pointer (some ⟨cb, 0, none⟩)]⟩, ⟨c2, 66, false, [.func (.func 24) #[] #[.pointer (some ⟨nb, 0, none⟩)]]⟩, ⟨nb, 3, false, [.int .i64 now]⟩], [], W1.heap.size⟩) by kernel_rfl) ⟨decide_eq_false (by omega), trivial⟩ ?_
    refine holds_end [] (show _ = some ([], dupR []) by kernel_rfl) ?_
    intro wx hm
    have hjn : j = opn.length := by omega
    rw [hjn] at hj1
    exact ⟨⟨_, rfl⟩, .inl ⟨_, rfl, abides_none hJ hj1 (hm.kept.mono (fun x _ h => (hnT x h).elim))⟩⟩
  obtain ⟨o, ho⟩ : ∃ o, opn[j]? = some o := ⟨_, List.getElem?_eq_getElem (by omega)⟩
  obtain ⟨ga, hA, hg, hcell⟩ := hI1.arr j o ho meantL_lt
  subst hA
  have hbo := hbd j o ho
  refine holds_wins [⟨ga, 0 + j * 13, o.cells⟩] (fun _ y hy => ?_) ?_
  · simp only [List.mem_cons, List.not_mem_nil, or_false] at hy
    subst hy
    exact ⟨hnT _, hg, fun i v hv => hcell i v hv⟩
  refine holds_codeY 4 ?_
  intro J3 Qn hJ3 hQ3
  refine holdsR_go (fun _ => trivial) (f := 25) (hs := [⟨false, 0, []⟩, ⟨true, 0, []⟩, ⟨false, 0, []⟩, ⟨false, 1, []⟩, ⟨false, 0, [⟨true, 0, 0, 13⟩]⟩, ⟨false, 0, []⟩, ⟨false, 0, []⟩, ⟨false, 0, [⟨false, 3, 0, 13⟩]⟩, ⟨false, 0, [⟨false, 1, 0, 1⟩]⟩, ⟨false, 0, [⟨false, 3, 0, 13⟩]⟩]) [0, 2, 4, 9, 10, 11, 16, 17] [] (show _ = some (Res.mk [(decide (((j : Int) : Int) < (n : Int))) = true, (0 : Int) ≤ (j : Int) ∧ (j : Int) < ((n : Nat) : Int)] (dupR [(ga, 0 + j * 13, 13), (W1.heap.size, 0, 13), (c2, 0, 1), (W1.heap.size, 0, 13)]) [.ops [1, 0, 0, 1, 1, 0, 0, 1, 0] [2, 3, 4, 5, 6, 7, 8], .code [1, 0, 0, 1, 1, 0, 0, 1, 1], .blk 1, .code [1, 0, 0, 1, 1, 1], .inv J3] ⟨[(0, .func (.yield l) #[] #[]), (2, .pointer (some ⟨c2, 0, none⟩)), (4, .int .i64 (j : Int)), (9, .slice (some ⟨ga, 0, none⟩) n cp), (10, .int .i64 (n : Int)), (11, .int .i64 (j : Int)), (16, .func (.func 24) #[] #[.pointer (some ⟨nb, 0, none⟩)]), (17, .agg #[.int .i64 o.to, .int .i64 o.id, .int .i64 o.q.kind, .int .i64 o.q.stripe, .int .i64 o.q.epoch, .int .i64 o.q.seq, .int .i64 o.q.mask, .int .i64 o.q.node, .int .i64 o.q.oe, .int .i64 o.q.os, .string o.q.block, .int .i64 o.asked, .int .i64 o.sent])], [⟨c1, 24, false, [.pointer (some ⟨cb, 0, none⟩)]⟩, ⟨c2, 66, false, [.func (.func 24) #[] #[.pointer (some ⟨nb, 0, none⟩)]]⟩, ⟨nb, 3, false, [.int .i64 now]⟩, ⟨W1.heap.size, 61, true, [.int .i64 o.to, .int .i64 o.id, .int .i64 o.q.kind, .int .i64 o.q.stripe, .int .i64 o.q.epoch, .int .i64 o.q.seq, .int .i64 o.q.mask, .int .i64 o.q.node, .int .i64 o.q.oe, .int .i64 o.q.os, .string o.q.block, .int .i64 o.asked, .int .i64 o.sent]⟩], [⟨ga, 0 + j * 13, [.int .i64 o.to, .int .i64 o.id, .int .i64 o.q.kind, .int .i64 o.q.stripe, .int .i64 o.q.epoch, .int .i64 o.q.seq, .int .i64 o.q.mask, .int .i64 o.q.node, .int .i64 o.q.oe, .int .i64 o.q.os, .string o.q.block, .int .i64 o.asked, .int .i64 o.sent]⟩], W1.heap.size + 1⟩) by kernel_rfl) ⟨decide_eq_true (by omega), ⟨by omega, by omega⟩, trivial⟩ ?_
  refine holdsR_op (r := none) (by kernel_rfl) ?_
  intro J4 hJ4
  refine holds_callP (.bool (decide (now - o.asked ≥ 8))) (show _ = some (24, [.agg #[.int .i64 o.to, .int .i64 o.id, .int .i64 o.q.kind, .int .i64 o.q.stripe, .int .i64 o.q.epoch, .int .i64 o.q.seq, .int .i64 o.q.mask, .int .i64 o.q.node, .int .i64 o.q.oe, .int .i64 o.q.os, .string o.q.block, .int .i64 o.asked, .int .i64 o.sent], .pointer (some ⟨nb, 0, none⟩)], some 18, []) by kernel_rfl) trivial rfl (fun wx hm => okmlt_any o now nb hbo wx (hm.at_ 2 rfl)) fun z5 hz5 => ?_
  replace hz5 : W1.heap.size + 1 ≤ z5 := hz5
  refine holds_opsNil ?_
  refine hJ4 _ _ _ ?_
  rcases Bool.eq_false_or_eq_true (decide (now - o.asked ≥ 8)) with d1 | d1
  rotate_left
  · skip
    refine holdsR_go (fun _ => trivial) (f := 17) (hs := [⟨false, 0, []⟩, ⟨false, 0, []⟩, ⟨false, 0, []⟩, ⟨false, 0, []⟩, ⟨false, 0, []⟩, ⟨false, 3, []⟩, ⟨false, 0, []⟩, ⟨false, 1, []⟩, ⟨false, 0, []⟩]) [0, 2, 9, 10, 11] [] (show _ = some (Res.mk [(decide (now - o.asked ≥ 8)) = false, (decide (now - o.asked ≥ 8)) = false, (decide (now - o.asked ≥ 8)) = false, (decide (now - o.asked ≥ 8)) = false, (decide (now - o.asked ≥ 8)) = false, false = false, inR .i64 (((j : Int) + 1))] (dupR []) [.inv J3] ⟨[(0, .func (.yield l) #[] #[]), (2, .pointer (some ⟨c2, 0, none⟩)), (9, .slice (some ⟨ga, 0, none⟩) n cp), (10, .int .i64 (n : Int)), (11, .int .i64 ((j : Int) + 1))], [⟨c1, 24, false, [.pointer (some ⟨cb, 0, none⟩)]⟩, ⟨c2, 66, false, [.func (.func 24) #[] #[.pointer (some ⟨nb, 0, none⟩)]]⟩, ⟨nb, 3, false, [.int .i64 now]⟩, ⟨W1.heap.size, 61, true, [.int .i64 o.to, .int .i64 o.id, .int .i64 o.q.kind, .int .i64 o.q.stripe, .int .i64 o.q.epoch, .int .i64 o.q.seq, .int .i64 o.q.mask, .int .i64 o.q.node, .int .i64 o.q.oe, .int .i64 o.q.os, .string o.q.block, .int .i64 o.asked, .int .i64 o.sent]⟩], [⟨ga, 0 + j * 13, [.int .i64 o.to, .int .i64 o.id, .int .i64 o.q.kind, .int .i64 o.q.stripe, .int .i64 o.q.epoch, .int .i64 o.q.seq, .int .i64 o.q.mask, .int .i64 o.q.node, .int .i64 o.q.oe, .int .i64 o.q.os, .string o.q.block, .int .i64 o.asked, .int .i64 o.sent]⟩], z5⟩) by kernel_rfl) ⟨d1, d1, d1, d1, d1, rfl, in64 (by omega), trivial⟩ ?_
    refine hJ3 _ _ _ ?_
    refine holds_go (f := 3) (hs := []) [0, 2, 9, 10, 11] [] (show _ = some (Res.mk [] (dupR []) [.inv JL, .blk 0] ⟨[(0, .func (.yield l) #[] #[]), (2, .pointer (some ⟨c2, 0, none⟩)), (9, .slice (some ⟨ga, 0, none⟩) n cp), (10, .int .i64 (n : Int)), (11, .int .i64 ((j : Int) + 1))], [⟨c1, 24, false, [.pointer (some ⟨cb, 0, none⟩)]⟩, ⟨c2, 66, false, [.func (.func 24) #[] #[.pointer (some ⟨nb, 0, none⟩)]]⟩, ⟨nb, 3, false, [.int .i64 now]⟩, ⟨W1.heap.size, 61, true, [.int .i64 o.to, .int .i64 o.id, .int .i64 o.q.kind, .int .i64 o.q.stripe, .int .i64 o.q.epoch, .int .i64 o.q.seq, .int .i64 o.q.mask, .int .i64 o.q.node, .int .i64 o.q.oe, .int .i64 o.q.os, .string o.q.block, .int .i64 o.asked, .int .i64 o.sent]⟩], [⟨ga, 0 + j * 13, [.int .i64 o.to, .int .i64 o.id, .int .i64 o.q.kind, .int .i64 o.q.stripe, .int .i64 o.q.epoch, .int .i64 o.q.seq, .int .i64 o.q.mask, .int .i64 o.q.node, .int .i64 o.q.oe, .int .i64 o.q.os, .string o.q.block, .int .i64 o.asked, .int .i64 o.sent]⟩], z5⟩) by kernel_rfl) trivial ?_
    refine holds_wins [] (fun _ _ h => by cases h) ?_
    refine holds_prune [0, 2, 9, 10, 11] [true, true, true, false] ?_
    intro a_ w4 hf hm
    have hk4 : Kept (fun _ => False) W1 w4 := hm.kept.mono (fun x _ h => (hnT x h).elim)
    have hj4 : J (meantL (fun o : OneM => decide (now - o.asked ≥ 8)) opn (j + 1)) w4 := by rw [meantL_succ ho, d1]; exact abides_none hJ hj1 hk4
    exact hJL (m - 1) _ a_ w4 (by omega) ⟨j + 1, _, by omega, hj4, by rw [← cast_succ j]; rfl⟩ hf (by have h := meant_mem (hInv _ _ hj4) hne; rw [hm.size] at h; exact h)
  refine holdsR_go (fun _ => trivial) (f := 6) (hs := [⟨false, 0, []⟩, ⟨true, 0, []⟩, ⟨true, 0, []⟩]) [0, 2, 9, 10, 11, 19, 20, 21] [] (show _ = some (Res.mk [(decide (now - o.asked ≥ 8)) = true, (decide (now - o.asked ≥ 8)) = true] (dupR []) [.ops [1, 0, 0, 1, 1, 0, 0, 1, 0] [6, 7, 8], .code [1, 0, 0, 1, 1, 0, 0, 1, 1], .blk 1, .code [1, 0, 0, 1, 1, 1], .inv J3] ⟨[(0, .func (.yield l) #[] #[]), (2, .pointer (some ⟨c2, 0, none⟩)), (9, .slice (some ⟨ga, 0, none⟩) n cp), (10, .int .i64 (n : Int)), (11, .int .i64 (j : Int)), (19, .bool (decide (now - o.asked ≥ 8))), (20, .func (.yield l) #[] #[]), (21, .int .i64 (j : Int))], [⟨c1, 24, false, [.pointer (some ⟨cb, 0, none⟩)]⟩, ⟨c2, 66, false, [.func (.func 24) #[] #[.pointer (some ⟨nb, 0, none⟩)]]⟩, ⟨nb, 3, false, [.int .i64 now]⟩, ⟨W1.heap.size, 61, true, [.int .i64 o.to, .int .i64 o.id, .int .i64 o.q.kind, .int .i64 o.q.stripe, .int .i64 o.q.epoch, .int .i64 o.q.seq, .int .i64 o.q.mask, .int .i64 o.q.node, .int .i64 o.q.oe, .int .i64 o.q.os, .string o.q.block, .int .i64 o.asked, .int .i64 o.sent]⟩], [⟨ga, 0 + j * 13, [.int .i64 o.to, .int .i64 o.id, .int .i64 o.q.kind, .int .i64 o.q.stripe, .int .i64 o.q.epoch, .int .i64 o.q.seq, .int .i64 o.q.mask, .int .i64 o.q.node, .int .i64 o.q.oe, .int .i64 o.q.os, .string o.q.block, .int .i64 o.asked, .int .i64 o.sent]⟩], z5⟩) by kernel_rfl) ⟨d1, d1, trivial⟩ ?_
  refine holdsR_yield (l := [7, 8]) (dst := some 22) (lp := l) (args := #[.int .i64 (j : Int)]) (c := true) (gd := (some 3)) (fun _ => trivial) rfl (by kernel_rfl) (by kernel_rfl) (by intro j hj; cases hj; exact congrArg (fun b => some (Value.bool b)) d1) (fun _ => rfl) (fun wx hm => ?_)
  have hk4 : Kept (fun _ => False) W1 wx := hm.kept.mono (fun x _ h => (hnT x h).elim)
  refine YieldAt.mono (hY (meantL (fun o : OneM => decide (now - o.asked ≥ 8)) opn j) j wx (abides_none hJ hj1 hk4) ⟨o, ho, d1, rfl⟩) (fun e W2 he => ?_)
  rcases he with ⟨rfl, g1⟩ | ⟨rfl, g1⟩
  · skip
    have hI2 := hInv _ _ g1
    refine ⟨.bool true, [(22, .bool true), (0, .func (.yield l) #[] #[]), (2, .pointer (some ⟨c2, 0, none⟩)), (9, .slice (some ⟨ga, 0, none⟩) n cp), (10, .int .i64 (n : Int)), (11, .int .i64 (j : Int)), (19, .bool (decide (now - o.asked ≥ 8))), (20, .func (.yield l) #[] #[]), (21, .int .i64 (j : Int))], rfl, rfl, [⟨c1, 24, false, [.pointer (some ⟨cb, 0, none⟩)]⟩, ⟨c2, 66, false, [.func (.func 24) #[] #[.pointer (some ⟨nb, 0, none⟩)]]⟩, ⟨nb, 3, false, [.int .i64 now]⟩], [], (fun _ => False), MemOk.start (by simpa using ⟨hI2.c1, hI2.c2, hI2.x⟩) (by simp) (by simpa using hne) (by simp), ?_⟩
    refine holdsR_go (fun _ => trivial) (f := 13) (hs := [⟨true, 0, []⟩, ⟨false, 2, []⟩, ⟨false, 0, []⟩, ⟨false, 1, []⟩, ⟨false, 0, []⟩]) [0, 2, 9, 10, 11] [] (show _ = some (Res.mk [(decide (now - o.asked ≥ 8)) = true, (decide (now - o.asked ≥ 8)) = true, false = false, inR .i64 (((j : Int) + 1))] (dupR []) [.inv J3] ⟨[(0, .func (.yield l) #[] #[]), (2, .pointer (some ⟨c2, 0, none⟩)), (9, .slice (some ⟨ga, 0, none⟩) n cp), (10, .int .i64 (n : Int)), (11, .int .i64 ((j : Int) + 1))], [⟨c1, 24, false, [.pointer (some ⟨cb, 0, none⟩)]⟩, ⟨c2, 66, false, [.func (.func 24) #[] #[.pointer (some ⟨nb, 0, none⟩)]]⟩, ⟨nb, 3, false, [.int .i64 now]⟩], [], W2.heap.size⟩) by kernel_rfl) ⟨d1, d1, rfl, in64 (by omega), trivial⟩ ?_
    refine hJ3 _ _ _ ?_
    refine holds_go (f := 3) (hs := []) [0, 2, 9, 10, 11] [] (show _ = some (Res.mk [] (dupR []) [.inv JL, .blk 0] ⟨[(0, .func (.yield l) #[] #[]), (2, .pointer (some ⟨c2, 0, none⟩)), (9, .slice (some ⟨ga, 0, none⟩) n cp), (10, .int .i64 (n : Int)), (11, .int .i64 ((j : Int) + 1))], [⟨c1, 24, false, [.pointer (some ⟨cb, 0, none⟩)]⟩, ⟨c2, 66, false, [.func (.func 24) #[] #[.pointer (some ⟨nb, 0, none⟩)]]⟩, ⟨nb, 3, false, [.int .i64 now]⟩], [], W2.heap.size⟩) by kernel_rfl) trivial ?_
    intro a_ w4 hf hm
    have hj4 : J (meantL (fun o : OneM => decide (now - o.asked ≥ 8)) opn (j + 1)) w4 := by rw [meantL_succ ho, d1]; exact abides_none hJ g1 hm.kept
    exact hJL (m - 1) _ a_ w4 (by omega) ⟨j + 1, _, by omega, hj4, by rw [← cast_succ j]⟩ hf (by have h := meant_mem (hInv _ _ hj4) hne; rw [hm.size] at h; exact h)
  · skip
    refine ⟨.bool false, [(22, .bool false), (0, .func (.yield l) #[] #[]), (2, .pointer (some ⟨c2, 0, none⟩)), (9, .slice (some ⟨ga, 0, none⟩) n cp), (10, .int .i64 (n : Int)), (11, .int .i64 (j : Int)), (19, .bool (decide (now - o.asked ≥ 8))), (20, .func (.yield l) #[] #[]), (21, .int .i64 (j : Int))], rfl, rfl, [], [], (fun _ => False), MemOk.none _ _, ?_⟩
    refine holdsR_go (fun _ => trivial) (f := 7) (hs := [⟨true, 0, []⟩, ⟨false, 2, []⟩, ⟨true, 0, []⟩]) [0, 2, 9, 10, 11] [] (show _ = some (Res.mk [(decide (now - o.asked ≥ 8)) = true, (decide (now - o.asked ≥ 8)) = true, true = true] (dupR []) [.code [1, 0, 0, 1, 1, 0, 0, 1, 1, 0], .blk 1, .code [1, 0, 0, 1, 1, 1], .inv J3] ⟨[(0, .func (.yield l) #[] #[]), (2, .pointer (some ⟨c2, 0, none⟩)), (9, .slice (some ⟨ga, 0, none⟩) n cp), (10, .int .i64 (n : Int)), (11, .int .i64 (j : Int))], [], [], W2.heap.size⟩) by kernel_rfl) ⟨d1, d1, rfl, trivial⟩ ?_
    refine holdsR_ret (by kernel_rfl) (fun a_ w4 hf hm => hQ3 _ _ ?_)
    exact ⟨hf.df, _, results_of (vs := []) (rs := []) (hs := []) hf hm (by kernel_rfl), ⟨_, rfl⟩, .inr ⟨_, ⟨j, o, ho, d1, rfl⟩, abides_none hJx g1 hm.kept⟩⟩

set_option maxRecDepth 100000 in
set_option maxHeartbeats 4000000 in
theorem meantAnswer_seq (w0 : World) (c1 c2 cb nb cp n : Nat) (frm lst lf lt lid : Int) (A : Option Addr) (opn : List OneM) (hn : opn.length = n) (hn8 : n ≤ 1000) (hne : ([c1, c2, nb] : List Nat).Nodup) (hcb : cb ≠ c1 ∧ cb ≠ c2 ∧ cb ≠ nb) :
    SeqI 4 Try.prog 29 #[.pointer (some ⟨c1, 0, none⟩), .pointer (some ⟨c2, 0, none⟩)] (fun j : Nat => #[.int .i64 (j : Int)]) (MeantI w0 24 66 59 c1 c2 cb (.func (.func 21) #[] #[.pointer (some ⟨nb, 0, none⟩)]) (fun W => Blk W nb 37 [.int .i64 lf, .int .i64 lt, .int .i64 lid, .bool true, .int .i64 0, .int .i64 0, .int .i64 0, .int .i64 0, .int .i64 0, .int .i64 0, .int .i64 0, .int .i64 0, .string ⟨#[]⟩, .int .i64 0, .int .i64 0, .int .i64 0, .bool false, .int .i64 0, .int .i64 0, .int .i64 0, .string ⟨#[]⟩, .bool false, .int .i64 0, .int .i64 0, .int .i64 0, .string ⟨#[]⟩]) frm lst A cp opn) (fun xs => xs = meantL (fun o : OneM => (o.id == lid) && (o.to == lf)) opn opn.length) (MeantSp (fun o : OneM => (o.id == lid) && (o.to == lf)) opn) (MeantV (fun o : OneM => (o.id == lid) && (o.to == lf)) opn) := by
  intro l J Jx W hInv hJ hJx hY h0
  have hI := hInv _ _ h0
  have hc := hI.hd rfl
  rw [hn] at hc
  refine callsIn_wide.2 (calls_of_holds (S := (fun _ => False)) (l := [.func (.yield l) #[] #[], .pointer (some ⟨c1, 0, none⟩), .pointer (some ⟨c2, 0, none⟩)]) (n := 26) (bk := [⟨c1, 24, false, [.pointer (some ⟨cb, 0, none⟩)]⟩, ⟨c2, 66, false, [.func (.func 21) #[] #[.pointer (some ⟨nb, 0, none⟩)]]⟩, ⟨nb, 37, false, [.int .i64 lf, .int .i64 lt, .int .i64 lid, .bool true, .int .i64 0, .int .i64 0, .int .i64 0, .int .i64 0, .int .i64 0, .int .i64 0, .int .i64 0, .int .i64 0, .string ⟨#[]⟩, .int .i64 0, .int .i64 0, .int .i64 0, .bool false, .int .i64 0, .int .i64 0, .int .i64 0, .string ⟨#[]⟩, .bool false, .int .i64 0, .int .i64 0, .int .i64 0, .string ⟨#[]⟩]⟩, ⟨cb, 59, false, [.int .i64 frm, .int .i64 lst, .slice A n cp]⟩]) (wn := []) Try.func29 (body_of (by kernel_rfl)) rfl (by simp) (MemOk.start (by simpa using ⟨hI.c1, hI.c2, hI.x, hc⟩) (by simp) (by simp at hne ⊢; omega) (by simp)) ?_)
  refine holds_go (f := 13) (hs := [⟨false, 0, [⟨false, 0, 0, 1⟩]⟩, ⟨false, 0, []⟩, ⟨false, 0, []⟩, ⟨false, 0, [⟨false, 3, 2, 1⟩]⟩, ⟨false, 0, []⟩, ⟨false, 0, []⟩]) [0, 2, 9, 10, 11] [] (show _ = some (Res.mk [] (dupR [(c1, 0, 1), (cb, 2, 1)]) [.code [1, 0], .blk 0] ⟨[(0, .func (.yield l) #[] #[]), (2, .pointer (some ⟨c2, 0, none⟩)), (9, .slice A n cp), (10, .int .i64 (n : Int)), (11, .int .i64 0)], [⟨c1, 24, false, [.pointer (some ⟨cb, 0, none⟩)]⟩, ⟨c2, 66, false, [.func (.func 21) #[] #[.pointer (some ⟨nb, 0, none⟩)]]⟩, ⟨nb, 37, false, [.int .i64 lf, .int .i64 lt, .int .i64 lid, .bool true, .int .i64 0, .int .i64 0, .int .i64 0, .int .i64 0, .int .i64 0, .int .i64 0, .int .i64 0, .int .i64 0, .string ⟨#[]⟩, .int .i64 0, .int .i64 0, .int .i64 0, .bool false, .int .i64 0, .int .i64 0, .int .i64 0, .string ⟨#[]⟩, .bool false, .int .i64 0, .int .i64 0, .int .i64 0, .string ⟨#[]⟩]⟩, ⟨cb, 59, false, [.int .i64 frm, .int .i64 lst, .slice A n cp]⟩], [], W.heap.size⟩) by kernel_rfl) trivial ?_
  have hI0 := hInv _ _ h0
  refine holds_prune [0, 2, 9, 10, 11] [true, true, true, false] ?_
  refine holds_loopW (w := w0) (S' := fun _ => True) (fun m st W1 => ∃ j z : Nat, m + j = n ∧ J (meantL (fun o : OneM => (o.id == lid) && (o.to == lf)) opn j) W1 ∧ st = ⟨[(0, .func (.yield l) #[] #[]), (2, .pointer (some ⟨c2, 0, none⟩)), (9, .slice A n cp), (10, .int .i64 (n : Int)), (11, .int .i64 (j : Int))], [⟨c1, 24, false, [.pointer (some ⟨cb, 0, none⟩)]⟩, ⟨c2, 66, false, [.func (.func 21) #[] #[.pointer (some ⟨nb, 0, none⟩)]]⟩, ⟨nb, 37, false, [.int .i64 lf, .int .i64 lt, .int .i64 lid, .bool true, .int .i64 0, .int .i64 0, .int .i64 0, .int .i64 0, .int .i64 0, .int .i64 0, .int .i64 0, .int .i64 0, .string ⟨#[]⟩, .int .i64 0, .int .i64 0, .int .i64 0, .bool false, .int .i64 0, .int .i64 0, .int .i64 0, .string ⟨#[]⟩, .bool false, .int .i64 0, .int .i64 0, .int .i64 0, .string ⟨#[]⟩]⟩], [], z⟩) n (by kernel_rfl) (fun W1 hm => ⟨⟨0, _, by omega, abides_none hJ h0 hm.kept, rfl⟩, by have h := meant_mem (hInv _ _ (abides_none hJ h0 hm.kept)) hne; rwa [hm.size] at h⟩) ?_
  rintro m _ W1 ⟨j, z, hmj, hj1, rfl⟩ hm1 JL hJL
  have hI1 := hInv _ _ hj1
  have hnT : ∀ x, ¬ Turned [⟨c1, 24, false, [.pointer (some ⟨cb, 0, none⟩)]⟩, ⟨c2, 66, false, [.func (.func 21) #[] #[.pointer (some ⟨nb, 0, none⟩)]]⟩, ⟨nb, 37, false, [.int .i64 lf, .int .i64 lt, .int .i64 lid, .bool true, .int .i64 0, .int .i64 0, .int .i64 0, .int .i64 0, .int .i64 0, .int .i64 0, .int .i64 0, .int .i64 0, .string ⟨#[]⟩, .int .i64 0, .int .i64 0, .int .i64 0, .bool false, .int .i64 0, .int .i64 0, .int .i64 0, .string ⟨#[]⟩, .bool false, .int .i64 0, .int .i64 0, .int .i64 0, .string ⟨#[]⟩]⟩] x := by
    rintro x ⟨b, hb, hr, he⟩
    simp at hb
    rcases hb with rfl | rfl | rfl <;> simp at hr
  by_cases h1 : j < n
  rotate_left
  · skip
    refine holds_go (f := 10) (hs := [⟨false, 0, []⟩, ⟨false, 0, []⟩]) [] [] (show _ = some (Res.mk [(decide (((j : Int) : Int) < (n : Int))) = false] (dupR []) [] ⟨[], [⟨c1, 24, false, [.pointer (some ⟨cb, 0, none⟩)]⟩, ⟨c2, 66, false, [.func (.func 21) #[] #[.pointer (some ⟨nb, 0, none⟩)]]⟩, ⟨nb, 37, false, [.int .i64 lf, .int .i64 lt, .int .i64 lid, .bool true, .int .i64 0, .int .i64 0, .int .i64 0, .int .i64 0, .int .i64 0, .int .i64 0, .int .i64 0, .int .i64 0, .string ⟨#[]⟩, .int .i64 0, .int .i64 0, .int .i64 0, .bool false, .int .i64 0, .int .i64 0, .int .i64 0, .string ⟨#[]⟩, .bool false, .int .i64 0, .int .i64 0, .int .i64 0, .string ⟨#[]⟩]⟩], [], W1.heap.size⟩) by kernel_rfl) ⟨decide_eq_false (by omega), trivial⟩ ?_
    refine holds_end [] (show _ = some ([], dupR []) by kernel_rfl) ?_
    intro wx hm
    have hjn : j = opn.length := by omega
    rw [hjn] at hj1
    exact ⟨⟨_, rfl⟩, .inl ⟨_, rfl, abides_none hJ hj1 (hm.kept.mono (fun x _ h => (hnT x h).elim))⟩⟩
  obtain ⟨o, ho⟩ : ∃ o, opn[j]? = some o := ⟨_, List.getElem?_eq_getElem (by omega)⟩
  obtain ⟨ga, hA, hg, hcell⟩ := hI1.arr j o ho meantL_lt
  subst hA
  refine holds_wins [⟨ga, 0 + j * 13, o.cells⟩] (fun _ y hy => ?_) ?_
  · simp only [List.mem_cons, List.not_mem_nil, or_false] at hy
    subst hy
    exact ⟨hnT _, hg, fun i v hv => hcell i v hv⟩
  refine holds_codeY 4 ?_
  intro J3 Qn hJ3 hQ3
  refine holdsR_go (fun _ => trivial) (f := 25) (hs := [⟨false, 0, []⟩, ⟨true, 0, []⟩, ⟨false, 0, []⟩, ⟨false, 1, []⟩, ⟨false, 0, [⟨true, 0, 0, 13⟩]⟩, ⟨false, 0, []⟩, ⟨false, 0, []⟩, ⟨false, 0, [⟨false, 3, 0, 13⟩]⟩, ⟨false, 0, [⟨false, 1, 0, 1⟩]⟩, ⟨false, 0, [⟨false, 3, 0, 13⟩]⟩]) [0, 2, 4, 9, 10, 11, 16, 17] [] (show _ = some (Res.mk [(decide (((j : Int) : Int) < (n : Int))) = true, (0 : Int) ≤ (j : Int) ∧ (j : Int) < ((n : Nat) : Int)] (dupR [(ga, 0 + j * 13, 13), (W1.heap.size, 0, 13), (c2, 0, 1), (W1.heap.size, 0, 13)]) [.ops [1, 0, 0, 1, 1, 0, 0, 1, 0] [2, 3, 4, 5, 6, 7, 8], .code [1, 0, 0, 1, 1, 0, 0, 1, 1], .blk 1, .code [1, 0, 0, 1, 1, 1], .inv J3] ⟨[(0, .func (.yield l) #[] #[]), (2, .pointer (some ⟨c2, 0, none⟩)), (4, .int .i64 (j : Int)), (9, .slice (some ⟨ga, 0, none⟩) n cp), (10, .int .i64 (n : Int)), (11, .int .i64 (j : Int)), (16, .func (.func 21) #[] #[.pointer (some ⟨nb, 0, none⟩)]), (17, .agg #[.int .i64 o.to, .int .i64 o.id, .int .i64 o.q.kind, .int .i64 o.q.stripe, .int .i64 o.q.epoch, .int .i64 o.q.seq, .int .i64 o.q.mask, .int .i64 o.q.node, .int .i64 o.q.oe, .int .i64 o.q.os, .string o.q.block, .int .i64 o.asked, .int .i64 o.sent])], [⟨c1, 24, false, [.pointer (some ⟨cb, 0, none⟩)]⟩, ⟨c2, 66, false, [.func (.func 21) #[] #[.pointer (some ⟨nb, 0, none⟩)]]⟩, ⟨nb, 37, false, [.int .i64 lf, .int .i64 lt, .int .i64 lid, .bool true, .int .i64 0, .int .i64 0, .int .i64 0, .int .i64 0, .int .i64 0, .int .i64 0, .int .i64 0, .int .i64 0, .string ⟨#[]⟩, .int .i64 0, .int .i64 0, .int .i64 0, .bool false, .int .i64 0, .int .i64 0, .int .i64 0, .string ⟨#[]⟩, .bool false, .int .i64 0, .int .i64 0, .int .i64 0, .string ⟨#[]⟩]⟩, ⟨W1.heap.size, 61, true, [.int .i64 o.to, .int .i64 o.id, .int .i64 o.q.kind, .int .i64 o.q.stripe, .int .i64 o.q.epoch, .int .i64 o.q.seq, .int .i64 o.q.mask, .int .i64 o.q.node, .int .i64 o.q.oe, .int .i64 o.q.os, .string o.q.block, .int .i64 o.asked, .int .i64 o.sent]⟩], [⟨ga, 0 + j * 13, [.int .i64 o.to, .int .i64 o.id, .int .i64 o.q.kind, .int .i64 o.q.stripe, .int .i64 o.q.epoch, .int .i64 o.q.seq, .int .i64 o.q.mask, .int .i64 o.q.node, .int .i64 o.q.oe, .int .i64 o.q.os, .string o.q.block, .int .i64 o.asked, .int .i64 o.sent]⟩], W1.heap.size + 1⟩) by kernel_rfl) ⟨decide_eq_true (by omega), ⟨by omega, by omega⟩, trivial⟩ ?_
  refine holdsR_op (r := none) (by kernel_rfl) ?_
  intro J4 hJ4
  refine holds_callP (.bool ((o.id == lid) && (o.to == lf))) (show _ = some (21, [.agg #[.int .i64 o.to, .int .i64 o.id, .int .i64 o.q.kind, .int .i64 o.q.stripe, .int .i64 o.q.epoch, .int .i64 o.q.seq, .int .i64 o.q.mask, .int .i64 o.q.node, .int .i64 o.q.oe, .int .i64 o.q.os, .string o.q.block, .int .i64 o.asked, .int .i64 o.sent], .pointer (some ⟨nb, 0, none⟩)], some 18, []) by kernel_rfl) trivial rfl (fun wx hm => okman_any o lf lt lid nb wx (hm.at_ 2 rfl)) fun z5 hz5 => ?_
  replace hz5 : W1.heap.size + 1 ≤ z5 := hz5
  refine holds_opsNil ?_
  refine hJ4 _ _ _ ?_
  rcases Bool.eq_false_or_eq_true ((o.id == lid) && (o.to == lf)) with d1 | d1
  rotate_left
  · skip
    refine holdsR_go (fun _ => trivial) (f := 17) (hs := [⟨false, 0, []⟩, ⟨false, 0, []⟩, ⟨false, 0, []⟩, ⟨false, 0, []⟩, ⟨false, 0, []⟩, ⟨false, 3, []⟩, ⟨false, 0, []⟩, ⟨false, 1, []⟩, ⟨false, 0, []⟩]) [0, 2, 9, 10, 11] [] (show _ = some (Res.mk [((o.id == lid) && (o.to == lf)) = false, ((o.id == lid) && (o.to == lf)) = false, ((o.id == lid) && (o.to == lf)) = false, ((o.id == lid) && (o.to == lf)) = false, ((o.id == lid) && (o.to == lf)) = false, false = false, inR .i64 (((j : Int) + 1))] (dupR []) [.inv J3] ⟨[(0, .func (.yield l) #[] #[]), (2, .pointer (some ⟨c2, 0, none⟩)), (9, .slice (some ⟨ga, 0, none⟩) n cp), (10, .int .i64 (n : Int)), (11, .int .i64 ((j : Int) + 1))], [⟨c1, 24, false, [.pointer (some ⟨cb, 0, none⟩)]⟩, ⟨c2, 66, false, [.func (.func 21) #[] #[.pointer (some ⟨nb, 0, none⟩)]]⟩, ⟨nb, 37, false, [.int .i64 lf, .int .i64 lt, .int .i64 lid, .bool true, .int .i64 0, .int .i64 0, .int .i64 0, .int .i64 0, .int .i64 0, .int .i64 0, .int .i64 0, .int .i64 0, .string ⟨#[]⟩, .int .i64 0, .int .i64 0, .int .i64 0, .bool false, .int .i64 0, .int .i64 0, .int .i64 0, .string ⟨#[]⟩, .bool false, .int .i64 0, .int .i64 0, .int .i64 0, .string ⟨#[]⟩]⟩, ⟨W1.heap.size, 61, true, [.int .i64 o.to, .int .i64 o.id, .int .i64 o.q.kind, .int .i64 o.q.stripe, .int .i64 o.q.epoch, .int .i64 o.q.seq, .int .i64 o.q.mask, .int .i64 o.q.node, .int .i64 o.q.oe, .int .i64 o.q.os, .string o.q.block, .int .i64 o.asked, .int .i64 o.sent]⟩], [⟨ga, 0 + j * 13, [.int .i64 o.to, .int .i64 o.id, .int .i64 o.q.kind, .int .i64 o.q.stripe, .int .i64 o.q.epoch, .int .i64 o.q.seq, .int .i64 o.q.mask, .int .i64 o.q.node, .int .i64 o.q.oe, .int .i64 o.q.os, .string o.q.block, .int .i64 o.asked, .int .i64 o.sent]⟩], z5⟩) by kernel_rfl) ⟨d1, d1, d1, d1, d1, rfl, in64 (by omega), trivial⟩ ?_
    refine hJ3 _ _ _ ?_
    refine holds_go (f := 3) (hs := []) [0, 2, 9, 10, 11] [] (show _ = some (Res.mk [] (dupR []) [.inv JL, .blk 0] ⟨[(0, .func (.yield l) #[] #[]), (2, .pointer (some ⟨c2, 0, none⟩)), (9, .slice (some ⟨ga, 0, none⟩) n cp), (10, .int .i64 (n : Int)), (11, .int .i64 ((j : Int) + 1))], [⟨c1, 24, false, [.pointer (some ⟨cb, 0, none⟩)]⟩, ⟨c2, 66, false, [.func (.func 21) #[] #[.pointer (some ⟨nb, 0, none⟩)]]⟩, ⟨nb, 37, false, [.int .i64 lf, .int .i64 lt, .int .i64 lid, .bool true, .int .i64 0, .int .i64 0, .int .i64 0, .int .i64 0, .int .i64 0, .int .i64 0, .int .i64 0, .int .i64 0, .string ⟨#[]⟩, .int .i64 0, .int .i64 0, .int .i64 0, .bool false, .int .i64 0, .int .i64 0, .int .i64 0, .string ⟨#[]⟩, .bool false, .int .i64 0, .int .i64 0, .int .i64 0, .string ⟨#[]⟩]⟩, ⟨W1.heap.size, 61, true, [.int .i64 o.to, .int .i64 o.id, .int .i64 o.q.kind, .int .i64 o.q.stripe, .int .i64 o.q.epoch, .int .i64 o.q.seq, .int .i64 o.q.mask, .int .i64 o.q.node, .int .i64 o.q.oe, .int .i64 o.q.os, .string o.q.block, .int .i64 o.asked, .int .i64 o.sent]⟩], [⟨ga, 0 + j * 13, [.int .i64 o.to, .int .i64 o.id, .int .i64 o.q.kind, .int .i64 o.q.stripe, .int .i64 o.q.epoch, .int .i64 o.q.seq, .int .i64 o.q.mask, .int .i64 o.q.node, .int .i64 o.q.oe, .int .i64 o.q.os, .string o.q.block, .int .i64 o.asked, .int .i64 o.sent]⟩], z5⟩) by kernel_rfl) trivial ?_
    refine holds_wins [] (fun _ _ h => by cases h) ?_
    refine holds_prune [0, 2, 9, 10, 11] [true, true, true, false] ?_
    intro a_ w4 hf hm
    have hk4 : Kept (fun _ => False) W1 w4 := hm.kept.mono (fun x _ h => (hnT x h).elim)
    have hj4 : J (meantL (fun o : OneM => (o.id == lid) && (o.to == lf)) opn (j + 1)) w4 := by rw [meantL_succ ho, d1]; exact abides_none hJ hj1 hk4
    exact hJL (m - 1) _ a_ w4 (by omega) ⟨j + 1, _, by omega, hj4, by rw [← cast_succ j]; rfl⟩ hf (by have h := meant_mem (hInv _ _ hj4) hne; rw [hm.size] at h; exact h)
  refine holdsR_go (fun _ => trivial) (f := 6) (hs := [⟨false, 0, []⟩, ⟨true, 0, []⟩, ⟨true, 0, []⟩]) [0, 2, 9, 10, 11, 19, 20, 21] [] (show _ = some (Res.mk [((o.id == lid) && (o.to == lf)) = true, ((o.id == lid) && (o.to == lf)) = true] (dupR []) [.ops [1, 0, 0, 1, 1, 0, 0, 1, 0] [6, 7, 8], .code [1, 0, 0, 1, 1, 0, 0, 1, 1], .blk 1, .code [1, 0, 0, 1, 1, 1], .inv J3] ⟨[(0, .func (.yield l) #[] #[]), (2, .pointer (some ⟨c2, 0, none⟩)), (9, .slice (some ⟨ga, 0, none⟩) n cp), (10, .int .i64 (n : Int)), (11, .int .i64 (j : Int)), (19, .bool ((o.id == lid) && (o.to == lf))), (20, .func (.yield l) #[] #[]), (21, .int .i64 (j : Int))], [⟨c1, 24, false, [.pointer (some ⟨cb, 0, none⟩)]⟩, ⟨c2, 66, false, [.func (.func 21) #[] #[.pointer (some ⟨nb, 0, none⟩)]]⟩, ⟨nb, 37, false, [.int .i64 lf, .int .i64 lt, .int .i64 lid, .bool true, .int .i64 0, .int .i64 0, .int .i64 0, .int .i64 0, .int .i64 0, .int .i64 0, .int .i64 0, .int .i64 0, .string ⟨#[]⟩, .int .i64 0, .int .i64 0, .int .i64 0, .bool false, .int .i64 0, .int .i64 0, .int .i64 0, .string ⟨#[]⟩, .bool false, .int .i64 0, .int .i64 0, .int .i64 0, .string ⟨#[]⟩]⟩, ⟨W1.heap.size, 61, true, [.int .i64 o.to, .int .i64 o.id, .int .i64 o.q.kind, .int .i64 o.q.stripe, .int .i64 o.q.epoch, .int .i64 o.q.seq, .int .i64 o.q.mask, .int .i64 o.q.node, .int .i64 o.q.oe, .int .i64 o.q.os, .string o.q.block, .int .i64 o.asked, .int .i64 o.sent]⟩], [⟨ga, 0 + j * 13, [.int .i64 o.to, .int .i64 o.id, .int .i64 o.q.kind, .int .i64 o.q.stripe, .int .i64 o.q.epoch, .int .i64 o.q.seq, .int .i64 o.q.mask, .int .i64 o.q.node, .int .i64 o.q.oe, .int .i64 o.q.os, .string o.q.block, .int .i64 o.asked, .int .i64 o.sent]⟩], z5⟩) by kernel_rfl) ⟨d1, d1, trivial⟩ ?_
  refine holdsR_yield (l := [7, 8]) (dst := some 22) (lp := l) (args := #[.int .i64 (j : Int)]) (c := true) (gd := (some 3)) (fun _ => trivial) rfl (by kernel_rfl) (by kernel_rfl) (by intro j hj; cases hj; exact congrArg (fun b => some (Value.bool b)) d1) (fun _ => rfl) (fun wx hm => ?_)
  have hk4 : Kept (fun _ => False) W1 wx := hm.kept.mono (fun x _ h => (hnT x h).elim)
  refine YieldAt.mono (hY (meantL (fun o : OneM => (o.id == lid) && (o.to == lf)) opn j) j wx (abides_none hJ hj1 hk4) ⟨o, ho, d1, rfl⟩) (fun e W2 he => ?_)
  rcases he with ⟨rfl, g1⟩ | ⟨rfl, g1⟩
  · skip
    have hI2 := hInv _ _ g1
    refine ⟨.bool true, [(22, .bool true), (0, .func (.yield l) #[] #[]), (2, .pointer (some ⟨c2, 0, none⟩)), (9, .slice (some ⟨ga, 0, none⟩) n cp), (10, .int .i64 (n : Int)), (11, .int .i64 (j : Int)), (19, .bool ((o.id == lid) && (o.to == lf))), (20, .func (.yield l) #[] #[]), (21, .int .i64 (j : Int))], rfl, rfl, [⟨c1, 24, false, [.pointer (some ⟨cb, 0, none⟩)]⟩, ⟨c2, 66, false, [.func (.func 21) #[] #[.pointer (some ⟨nb, 0, none⟩)]]⟩, ⟨nb, 37, false, [.int .i64 lf, .int .i64 lt, .int .i64 lid, .bool true, .int .i64 0, .int .i64 0, .int .i64 0, .int .i64 0, .int .i64 0, .int .i64 0, .int .i64 0, .int .i64 0, .string ⟨#[]⟩, .int .i64 0, .int .i64 0, .int .i64 0, .bool false, .int .i64 0, .int .i64 0, .int .i64 0, .string ⟨#[]⟩, .bool false, .int .i64 0, .int .i64 0, .int .i64 0, .string ⟨#[]⟩]⟩], [], (fun _ => False), MemOk.start (by simpa using ⟨hI2.c1, hI2.c2, hI2.x⟩) (by simp) (by simpa using hne) (by simp), ?_⟩
    refine holdsR_go (fun _ => trivial) (f := 13) (hs := [⟨true, 0, []⟩, ⟨false, 2, []⟩, ⟨false, 0, []⟩, ⟨false, 1, []⟩, ⟨false, 0, []⟩]) [0, 2, 9, 10, 11] [] (show _ = some (Res.mk [((o.id == lid) && (o.to == lf)) = true, ((o.id == lid) && (o.to == lf)) = true, false = false, inR .i64 (((j : Int) + 1))] (dupR []) [.inv J3] ⟨[(0, .func (.yield l) #[] #[]), (2, .pointer (some ⟨c2, 0, none⟩)), (9, .slice (some ⟨ga, 0, none⟩) n cp), (10, .int .i64 (n : Int)), (11, .int .i64 ((j : Int) + 1))], [⟨c1, 24, false, [.pointer (some ⟨cb, 0, none⟩)]⟩, ⟨c2, 66, false, [.func (.func 21) #[] #[.pointer (some ⟨nb, 0, none⟩)]]⟩, ⟨nb, 37, false, [.int .i64 lf, .int .i64 lt, .int .i64 lid, .bool true, .int .i64 0, .int .i64 0, .int .i64 0, .int .i64 0, .int .i64 0, .int .i64 0, .int .i64 0, .int .i64 0, .string ⟨#[]⟩, .int .i64 0, .int .i64 0, .int .i64 0, .bool false, .int .i64 0, .int .i64 0, .int .i64 0, .string ⟨#[]⟩, .bool false, .int .i64 0, .int .i64 0, .int .i64 0, .string ⟨#[]⟩]⟩], [], W2.heap.size⟩) by kernel_rfl) ⟨d1, d1, rfl, in64 (by omega), trivial⟩ ?_
    refine hJ3 _ _ _ ?_
    refine holds_go (f := 3) (hs := []) [0, 2, 9, 10, 11] [] (show _ = some (Res.mk [] (dupR []) [.inv JL, .blk 0] ⟨[(0, .func (.yield l) #[] #[]), (2, .pointer (some ⟨c2, 0, none⟩)), (9, .slice (some ⟨ga, 0, none⟩) n cp), (10, .int .i64 (n : Int)), (11, .int .i64 ((j : Int) + 1))], [⟨c1, 24, false, [.pointer (some ⟨cb, 0, none⟩)]⟩, ⟨c2, 66, false, [.func (.func 21) #[] #[.pointer (some ⟨nb, 0, none⟩)]]⟩, ⟨nb, 37, false, [.int .i64 lf, .int .i64 lt, .int .i64 lid, .bool true, .int .i64 0, .int .i64 0, .int .i64 0, .int .i64 0, .int .i64 0, .int .i64 0, .int .i64 0, .int .i64 0, .string ⟨#[]⟩, .int .i64 0, .int .i64 0, .int .i64 0, .bool false, .int .i64 0, .int .i64 0, .int .i64 0, .string ⟨#[]⟩, .bool false, .int .i64 0, .int .i64 0, .int .i64 0, .string ⟨#[]⟩]⟩], [], W2.heap.size⟩) by kernel_rfl) trivial ?_
    intro a_ w4 hf hm
    have hj4 : J (meantL (fun o : OneM => (o.id == lid) && (o.to == lf)) opn (j + 1)) w4 := by rw [meantL_succ ho, d1]; exact abides_none hJ g1 hm.kept
    exact hJL (m - 1) _ a_ w4 (by omega) ⟨j + 1, _, by omega, hj4, by rw [← cast_succ j]⟩ hf (by have h := meant_mem (hInv _ _ hj4) hne; rw [hm.size] at h; exact h)
  · skip
    refine ⟨.bool false, [(22, .bool false), (0, .func (.yield l) #[] #[]), (2, .pointer (some ⟨c2, 0, none⟩)), (9, .slice (some ⟨ga, 0, none⟩) n cp), (10, .int .i64 (n : Int)), (11, .int .i64 (j : Int)), (19, .bool ((o.id == lid) && (o.to == lf))), (20, .func (.yield l) #[] #[]), (21, .int .i64 (j : Int))], rfl, rfl, [], [], (fun _ => False), MemOk.none _ _, ?_⟩
    refine holdsR_go (fun _ => trivial) (f := 7) (hs := [⟨true, 0, []⟩, ⟨false, 2, []⟩, ⟨true, 0, []⟩]) [0, 2, 9, 10, 11] [] (show _ = some (Res.mk [((o.id == lid) && (o.to == lf)) = true, ((o.id == lid) && (o.to == lf)) = true, true = true] (dupR []) [.code [1, 0, 0, 1, 1, 0, 0, 1, 1, 0], .blk 1, .code [1, 0, 0, 1, 1, 1], .inv J3] ⟨[(0, .func (.yield l) #[] #[]), (2, .pointer (some ⟨c2, 0, none⟩)), (9, .slice (some ⟨ga, 0, none⟩) n cp), (10, .int .i64 (n : Int)), (11, .int .i64 (j : Int))], [], [], W2.heap.size⟩) by kernel_rfl) ⟨d1, d1, rfl, trivial⟩ ?_
    refine holdsR_ret (by kernel_rfl) (fun a_ w4 hf hm => hQ3 _ _ ?_)
    exact ⟨hf.df, _, results_of (vs := []) (rs := []) (hs := []) hf hm (by kernel_rfl), ⟨_, rfl⟩, .inr ⟨_, ⟨j, o, ho, d1, rfl⟩, abides_none hJx g1 hm.kept⟩⟩

set_option maxRecDepth 100000 in
set_option maxHeartbeats 4000000 in
theorem meantAgain_fn (cb nb : Nat) (w : World) :
    Calls Try.prog 20 #[.pointer (some ⟨cb, 0, none⟩), .func (.func 23) #[] #[.pointer (some ⟨nb, 0, none⟩)]] w (fun e w' => ∃ c1 c2, e = .returned (.func (.func 29) #[] #[.pointer (some ⟨c1, 0, none⟩), .pointer (some ⟨c2, 0, none⟩)]) ∧ w.heap.size ≤ c1 ∧ c1 < c2 ∧ Blk w' c1 24 [.pointer (some ⟨cb, 0, none⟩)] ∧ Blk w' c2 66 [.func (.func 23) #[] #[.pointer (some ⟨nb, 0, none⟩)]] ∧ Kept (fun _ => False) w w') := by
  refine calls_of_holds (S := (fun _ => False)) (l := [(pt cb 0), .func (.func 23) #[] #[(pt nb 0)]]) (n := 6) Try.func20 (body_of (by kernel_rfl)) rfl (by simp) (MemOk.none w _) ?_
  refine hgE 14 [oh0, oh0, oh0, oh0, oh0] [4] [] [] [.code [1, 1]] ⟨[(4, .func (.func 29) #[] #[(pt w.heap.size 0), (pt (w.heap.size + 1) 0)])], [⟨w.heap.size, 24, true, [(pt cb 0)]⟩, ⟨w.heap.size + 1, 66, true, [.func (.func 23) #[] #[(pt nb 0)]]⟩], [], w.heap.size + 2⟩ ?_
  refine hrt [] [.func (.func 29) #[] #[(pt w.heap.size 0), (pt (w.heap.size + 1) 0)]] [] ?_
  intro wx hm
  exact ⟨w.heap.size, (w.heap.size + 1), rfl, by omega, by omega, hm.at_ 0 rfl, hm.at_ 1 rfl, hm.kept⟩

set_option maxRecDepth 100000 in
set_option maxHeartbeats 4000000 in
theorem meantLate_fn (cb nb : Nat) (w : World) :
    Calls Try.prog 20 #[.pointer (some ⟨cb, 0, none⟩), .func (.func 24) #[] #[.pointer (some ⟨nb, 0, none⟩)]] w (fun e w' => ∃ c1 c2, e = .returned (.func (.func 29) #[] #[.pointer (some ⟨c1, 0, none⟩), .pointer (some ⟨c2, 0, none⟩)]) ∧ w.heap.size ≤ c1 ∧ c1 < c2 ∧ Blk w' c1 24 [.pointer (some ⟨cb, 0, none⟩)] ∧ Blk w' c2 66 [.func (.func 24) #[] #[.pointer (some ⟨nb, 0, none⟩)]] ∧ Kept (fun _ => False) w w') := by
  refine calls_of_holds (S := (fun _ => False)) (l := [(pt cb 0), .func (.func 24) #[] #[(pt nb 0)]]) (n := 6) Try.func20 (body_of (by kernel_rfl)) rfl (by simp) (MemOk.none w _) ?_
  refine hgE 14 [oh0, oh0, oh0, oh0, oh0] [4] [] [] [.code [1, 1]] ⟨[(4, .func (.func 29) #[] #[(pt w.heap.size 0), (pt (w.heap.size + 1) 0)])], [⟨w.heap.size, 24, true, [(pt cb 0)]⟩, ⟨w.heap.size + 1, 66, true, [.func (.func 24) #[] #[(pt nb 0)]]⟩], [], w.heap.size + 2⟩ ?_
  refine hrt [] [.func (.func 29) #[] #[(pt w.heap.size 0), (pt (w.heap.size + 1) 0)]] [] ?_
  intro wx hm
  exact ⟨w.heap.size, (w.heap.size + 1), rfl, by omega, by omega, hm.at_ 0 rfl, hm.at_ 1 rfl, hm.kept⟩

set_option maxRecDepth 100000 in
set_option maxHeartbeats 4000000 in
theorem meantAnswer_fn (cb nb : Nat) (w : World) :
    Calls Try.prog 20 #[.pointer (some ⟨cb, 0, none⟩), .func (.func 21) #[] #[.pointer (some ⟨nb, 0, none⟩)]] w (fun e w' => ∃ c1 c2, e = .returned (.func (.func 29) #[] #[.pointer (some ⟨c1, 0, none⟩), .pointer (some ⟨c2, 0, none⟩)]) ∧ w.heap.size ≤ c1 ∧ c1 < c2 ∧ Blk w' c1 24 [.pointer (some ⟨cb, 0, none⟩)] ∧ Blk w' c2 66 [.func (.func 21) #[] #[.pointer (some ⟨nb, 0, none⟩)]] ∧ Kept (fun _ => False) w w') := by
  refine calls_of_holds (S := (fun _ => False)) (l := [(pt cb 0), .func (.func 21) #[] #[(pt nb 0)]]) (n := 6) Try.func20 (body_of (by kernel_rfl)) rfl (by simp) (MemOk.none w _) ?_
  refine hgE 14 [oh0, oh0, oh0, oh0, oh0] [4] [] [] [.code [1, 1]] ⟨[(4, .func (.func 29) #[] #[(pt w.heap.size 0), (pt (w.heap.size + 1) 0)])], [⟨w.heap.size, 24, true, [(pt cb 0)]⟩, ⟨w.heap.size + 1, 66, true, [.func (.func 21) #[] #[(pt nb 0)]]⟩], [], w.heap.size + 2⟩ ?_
  refine hrt [] [.func (.func 29) #[] #[(pt w.heap.size 0), (pt (w.heap.size + 1) 0)]] [] ?_
  intro wx hm
  exact ⟨w.heap.size, (w.heap.size + 1), rfl, by omega, by omega, hm.at_ 0 rfl, hm.at_ 1 rfl, hm.kept⟩

end Go.Proofs.Ytmeddeaphmpjcaa
