/- The keeper's contracts in the executor's words. -/
import Derived.Test.YtieeeijaojdbfaaEngE
import Derived.Test.YtieeeijaojdbfaaAskW
import Derived.Test.YtieeeijaojdbfaaActs
namespace Go.Proofs.Ytieeeijaojdbfaa
open Go.RowKit

section
variable {w0 : World} {S : Nat → Prop} {bk : List Bk} {wn : List Wn} {sz : Nat}
theorem new2M (w : World) (hm : MemOk w0 S bk wn sz w) : Calls Try.prog 9 #[.int .i64 2] w (fun e w' => e = .returned (.tuple #[.pointer (some ⟨sz + 1, 0, none⟩), .int .i64 0]) ∧ sz ≤ w'.heap.size ∧
    MemOk w0 S (bk ++ [⟨sz + 1, 59, true, keepCells sz (newK 2)⟩, ⟨sz, 45, true, leaseCells (newK 2).ls⟩]) wn w'.heap.size w') := by
  refine (new2 w).mono fun e w' he => ?_
  obtain ⟨h1, h2, h3⟩ := he
  rw [hm.size] at h1 h2
  refine ⟨h1, hm.add h3 _ ⟨h2.kb, h2.lb, trivial⟩ (fun b hb => ?_) (by simp)⟩
  simp only [List.mem_cons, List.not_mem_nil, or_false] at hb
  rcases hb with rfl | rfl
  · exact Nat.le_succ _
  · exact Nat.le_refl _
theorem new3M (w : World) (hm : MemOk w0 S bk wn sz w) : Calls Try.prog 9 #[.int .i64 3] w (fun e w' => e = .returned (.tuple #[.pointer (some ⟨sz + 1, 0, none⟩), .int .i64 0]) ∧ sz ≤ w'.heap.size ∧
    MemOk w0 S (bk ++ [⟨sz + 1, 59, true, keepCells sz (newK 3)⟩, ⟨sz, 45, true, leaseCells (newK 3).ls⟩]) wn w'.heap.size w') := by
  refine (new3 w).mono fun e w' he => ?_
  obtain ⟨h1, h2, h3⟩ := he
  rw [hm.size] at h1 h2
  refine ⟨h1, hm.add h3 _ ⟨h2.kb, h2.lb, trivial⟩ (fun b hb => ?_) (by simp)⟩
  simp only [List.mem_cons, List.not_mem_nil, or_false] at hb
  rcases hb with rfl | rfl
  · exact Nat.le_succ _
  · exact Nat.le_refl _
theorem doM (i : Nat) {kb lb : Nat} {K : KeepM} (hi : bk[i]? = some ⟨kb, 59, true, keepCells lb K⟩) (hj : bk[i + 1]? = some ⟨lb, 45, true, leaseCells K.ls⟩) (ho : KeepOk K) (now fr id : Int) (q : AskM) {r : KeepM × SayM × Bool} (hr : doF K now fr id q = r)
    (w : World) (hm : MemOk w0 S bk wn sz w) : Calls Try.prog 11 #[.pointer (some ⟨kb, 0, none⟩), .int .i64 now, .int .i64 fr, .int .i64 id, .agg #[.int .i64 q.kind, .int .i64 q.stripe, .int .i64 q.epoch, .int .i64 q.seq, .int .i64 q.mask, .int .i64 q.node, .int .i64 q.oe, .int .i64 q.os, .string q.block]] w (fun e w' => e = .returned (.tuple #[.agg #[.int .i64 r.2.1.st, .int .i64 r.2.1.ep, .int .i64 r.2.1.ou, .bool false, .int .i64 0, .int .i64 0, .int .i64 0, .string ⟨#[]⟩, .bool false, .int .i64 0, .int .i64 0, .int .i64 0, .string ⟨#[]⟩], .bool r.2.2]) ∧ sz ≤ w'.heap.size ∧
    MemOk w0 S ((bk.set i ⟨kb, 59, true, keepCells lb r.1⟩).set (i + 1) ⟨lb, 45, true, leaseCells r.1.ls⟩) wn w'.heap.size w') := by
  subst hr
  refine (do_any kb lb K now fr id q w ⟨hm.at_ i hi, hm.at_ (i + 1) hj⟩ ho).mono fun e w' he => ?_
  obtain ⟨h1, h2, h3⟩ := he
  exact ⟨h1, hm.set2 i (i + 1) hi hj rfl rfl (by omega) h3 h2.kb h2.lb⟩
theorem leaseM (i : Nat) {kb lb : Nat} {K : KeepM} (hi : bk[i]? = some ⟨kb, 59, true, keepCells lb K⟩) (hj : bk[i + 1]? = some ⟨lb, 45, true, leaseCells K.ls⟩) (ho : KeepOk K) (s : Int) {r : LeaseM × Bool} (hr : leaseOf K s = r)
    (w : World) (hm : MemOk w0 S bk wn sz w) : Calls Try.prog 12 #[.pointer (some ⟨kb, 0, none⟩), .int .i64 s] w (RetK (.tuple #[.agg #[.int .i64 r.1.ep, .int .i64 r.1.ho, .int .i64 r.1.un, .int .i64 r.1.ou], .bool r.2]) w) :=
  lease_is kb lb K s r hr w ⟨hm.at_ i hi, hm.at_ (i + 1) hj⟩ ho
end
theorem pickP (c n v : Int) (h : pickZ c n = v) (w : World) (h1 : 1 ≤ n) (h2 : n ≤ 9223372036854775807) (h3 : -9223372036854775808 ≤ c ∧ c ≤ 9223372036854775807) : Calls Try.prog 10 #[.int .i64 c, .int .i64 n] w (RetK (.int .i64 v) w) :=
  (pick_is c n v h w h1 h2 h3.1 h3.2).mono fun _ _ he => ⟨he.1, he.2 ▸ Kept.refl _ _⟩
theorem askP (x : AskM) (ep : Int) (q : AskM) (hq : askF x ep = q) (w : World) (hx : RawOk x) (h0 : 0 ≤ ep) (h1 : ep ≤ 16777215) :
    Calls Try.prog 13 #[.agg #[.int .i64 x.kind, .int .i64 x.stripe, .int .i64 x.epoch, .int .i64 x.seq, .int .i64 x.mask, .int .i64 x.node, .int .i64 x.oe, .int .i64 x.os, .string x.block], .int .i64 ep] w (RetK (.agg #[.int .i64 q.kind, .int .i64 q.stripe, .int .i64 q.epoch, .int .i64 0, .int .i64 0, .int .i64 q.node, .int .i64 0, .int .i64 0, .string ⟨#[]⟩]) w) := by
  subst hq
  exact ask_any x ep w hx h0 h1
theorem awakeP (w : World) : Calls Try.prog 8 #[] w (RetK (.bool true) w) := awake_any w
/-- an act of the script, as a window -/
theorem act_win {w : World} {b o k : Nat} {a : ActM} (hb : b < w.heap.size) (hc : ∀ j, j < 12 → w.cell? ⟨b, o + k * 12 + j, none⟩ = a.cells[j]?) :
    ¬ False ∧ b < w.heap.size ∧ ∀ j v, a.cells[j]? = some v → w.cell? ⟨b, o + k * 12 + j, none⟩ = some v :=
  ⟨id, hb, fun j v hj => by
    have hlt : j < 12 := by
      have := (List.getElem?_eq_some_iff.1 hj).1
      simpa [ActM.cells] using this
    rw [hc j hlt, hj]⟩
/-- what is answered of a stripe at lease l, and its lease then: a function of that lease alone -/
def stepS (l : LeaseM) (now fr : Int) (q : AskM) : SayM := if rightAsk q = true then (ans1 l now fr q).1 else badS
def stepL (l : LeaseM) (now fr : Int) (q : AskM) : LeaseM := if rightAsk q = true then (ans1 l now fr q).2 else l
theorem do_at (K : KeepM) (ho : KeepOk K) (i : Nat) (l : LeaseM) (hi : K.ls[i]? = some l) (now fr id : Int) (q : AskM) (hq : q.stripe = i) (hfr : fr = 200 ∨ fr = 201) (h1 : 1 ≤ id) (h2 : id ≤ 1099511627776) (h3 : K.i0 < id) (h4 : K.i1 < id) (hn : 0 ≤ now) (hn2 : now ≤ 1099511627776) :
    ∃ K', doF K now fr id q = (K', stepS l now fr q, true) ∧ K'.ls = K.ls.set i (stepL l now fr q) ∧ KeepOk K' ∧ K'.i0 ≤ id ∧ K'.i1 ≤ id := by
  obtain ⟨K', e1, e2, e3, e4⟩ := doF_new K now fr id q hfr h1 h2 h3 h4 hn hn2
  have hlen : K'.ls.length = K.ls.length := by rw [e2]; exact length_ansF _ _ _ _
  have hok : KeepOk K' := ⟨by rw [hlen]; exact ho.n1, by rw [hlen]; exact ho.n8, by rw [e2]; exact ansF_ep _ _ _ _ ho.ep⟩
  by_cases hr : rightAsk q = true
  · have e : ansF K.ls now fr q = ((ans1 l now fr q).1, K.ls.set i (ans1 l now fr q).2) := by simp [ansF, hr, hq, hi]
    rw [e] at e1 e2
    exact ⟨K', by rw [stepS, if_pos hr]; exact e1, by rw [stepL, if_pos hr]; exact e2, hok, e3, e4⟩
  · have e : ansF K.ls now fr q = (badS, K.ls) := by simp [ansF, hr]
    rw [e] at e1 e2
    exact ⟨K', by rw [stepS, if_neg hr]; exact e1, by rw [stepL, if_neg hr, set_self hi]; exact e2, hok, e3, e4⟩
end Go.Proofs.Ytieeeijaojdbfaa
