import Derived.Test.YtkffgdfbdmgncaaFit9
import Derived.Test.YtkffgdfbdmgncaaCrcM
import Derived.Test.YtkffgdfbdmgncaaTextsX
import Derived.Test.YtkffgdfbdmgncaaEngG
import Derived.Test.YtkffgdfbdmgncaaProg
namespace Go.Proofs.Ytkffgdfbdmgncaa
open Go.RowKit
def fitF (x:Raw9):AskM:=
 let S:=pickZ x.stripe 8
 let E:=pickZ x.epoch 6
 let Q:=pickZ x.seq 6
 if pickZ x.kind 10 = 7 then ⟨8,S,0,0,0,0,0,0,⟨#[]⟩⟩
 else if pickZ x.kind 10 = 3 then ⟨4,S,1 + E,1 + Q,1 + pickZ x.mask 63,0,0,0,strL 16 x.block⟩
 else if pickZ x.kind 10 = 4 then ⟨5,S,1 + E,1 + Q,0,0,0,0,⟨#[]⟩⟩
 else if pickZ x.kind 10 = 5 then ⟨6,S,1 + E,0,pickZ x.mask 2,0,pickZ x.oe (1 + E),pickZ x.os 7,⟨#[]⟩⟩
 else if pickZ x.kind 10 = 6 then ⟨7,S,1 + E,1 + Q,0,0,0,0,strL 16 x.block⟩
 else if pickZ x.kind 10 = 8 then ⟨9,S,1 + E,0,0,pickZ x.node 6,0,0,⟨#[]⟩⟩
 else ⟨1 + pickZ x.kind 10,S,1 + E,0,0,0,0,0,⟨#[]⟩⟩
theorem fitP (x:Raw9) (q:AskM) (hq:fitF x = q) (w:World) (hx:Raw9Ok x) :
  Calls Try.prog 18 #[.agg #[.int .i64 x.kind,.int .i64 x.stripe,.int .i64 x.epoch,.int .i64 x.seq,.int .i64 x.mask,.int .i64 x.node,.int .i64 x.oe,.int .i64 x.os,.string x.block]] w (RetK (.agg #[.int .i64 q.kind,.int .i64 q.stripe,.int .i64 q.epoch,.int .i64 q.seq,.int .i64 q.mask,.int .i64 q.node,.int .i64 q.oe,.int .i64 q.os,.string q.block]) w):=by
 subst hq
 have hb:=pickZ_bd x.kind 10 (by omega)
 have hK:pickZ x.kind 10 = 0 ∨ pickZ x.kind 10 = 1 ∨ pickZ x.kind 10 = 2 ∨ pickZ x.kind 10 = 3 ∨ pickZ x.kind 10 = 4 ∨ pickZ x.kind 10 = 5 ∨ pickZ x.kind 10 = 6 ∨ pickZ x.kind 10 = 7 ∨ pickZ x.kind 10 = 8 ∨ pickZ x.kind 10 = 9:=by omega
 rcases hK with hK | hK | hK | hK | hK | hK | hK | hK | hK | hK
 ·simpa [fitF,hK] using fit_1 x _ _ hx hK rfl rfl w
 ·simpa [fitF,hK] using fit_2 x _ _ hx hK rfl rfl w
 ·simpa [fitF,hK] using fit_3 x _ _ hx hK rfl rfl w
 ·simpa [fitF,hK] using fit_4 x _ _ _ _ hx hK rfl rfl rfl rfl w
 ·simpa [fitF,hK] using fit_5 x _ _ _ hx hK rfl rfl rfl w
 ·simpa [fitF,hK] using fit_6 x _ _ _ _ _ hx hK rfl rfl rfl rfl rfl w
 ·simpa [fitF,hK] using fit_7 x _ _ _ hx hK rfl rfl rfl w
 ·simpa [fitF,hK] using fit_8 x _ hx hK rfl w
 ·simpa [fitF,hK] using fit_9 x _ _ _ hx hK rfl rfl rfl w
 ·simpa [fitF,hK] using fit_10 x _ _ hx hK rfl rfl w
end Go.Proofs.Ytkffgdfbdmgncaa
namespace Go.Proofs.Ytkffgdfbdmgncaa
open Go.RowKit
theorem fitF_ok (x:Raw9):AskOk (fitF x):=by
 have hK:=pickZ_bd x.kind 10 (by omega)
 have hS:=pickZ_bd x.stripe 8 (by omega)
 have hE:=pickZ_bd x.epoch 6 (by omega)
 have hQ:=pickZ_bd x.seq 6 (by omega)
 have hM:=pickZ_bd x.mask 63 (by omega)
 have hM2:=pickZ_bd x.mask 2 (by omega)
 have hOE:=pickZ_bd x.oe (1 + pickZ x.epoch 6) (by omega)
 have hOS:=pickZ_bd x.os 7 (by omega)
 have hN:=pickZ_bd x.node 6 (by omega)
 unfold fitF
 dsimp only
 generalize pickZ x.oe (1 + pickZ x.epoch 6) = OE at *
 generalize pickZ x.kind 10 = K at *
 generalize pickZ x.stripe 8 = S at *
 generalize pickZ x.epoch 6 = E at *
 generalize pickZ x.seq 6 = Q at *
 generalize pickZ x.mask 63 = M at *
 generalize pickZ x.mask 2 = M2 at *
 generalize pickZ x.os 7 = OS at *
 generalize pickZ x.node 6 = N at *
 by_cases h7:K = 7
 ·rw [if_pos h7]
  constructor <;> dsimp only <;> intros <;> first | omega | rfl
 rw [if_neg h7]
 by_cases h3:K = 3
 ·rw [if_pos h3]
  constructor <;> dsimp only <;> intros <;> first | omega | exact size_strL 16 _
 rw [if_neg h3]
 by_cases h4:K = 4
 ·rw [if_pos h4]
  constructor <;> dsimp only <;> intros <;> first | omega | rfl
 rw [if_neg h4]
 by_cases h5:K = 5
 ·rw [if_pos h5]
  constructor <;> dsimp only <;> intros <;> first | omega | rfl
 rw [if_neg h5]
 by_cases h6:K = 6
 ·rw [if_pos h6]
  constructor <;> dsimp only <;> intros <;> first | omega | exact size_strL 16 _
 rw [if_neg h6]
 by_cases h8:K = 8
 ·rw [if_pos h8]
  constructor <;> dsimp only <;> intros <;> first | omega | rfl
 rw [if_neg h8]
 constructor <;> dsimp only <;> intros <;> first | omega | rfl
end Go.Proofs.Ytkffgdfbdmgncaa
namespace Go.Proofs.Ytkffgdfbdmgncaa
open Go.RowKit
set_option maxRecDepth 100000 in
set_option maxHeartbeats 4000000 in
theorem pick12_n (c n v:Int) (h:pickZ c n = v) (hc:c < 0) (h1:1 ≤ n) (h2:n ≤ 9223372036854775807) (h3:-9223372036854775808 ≤ c ∧ c ≤ 9223372036854775807) (w:World) :
  Calls Try.prog 17 #[.int .i64 c,.int .i64 n] w (RetK (.int .i64 v) w):=by
 refine calls_of_holds (S:=(fun _=>False)) (l:=[.int .i64 c,.int .i64 n]) (n:=13) Try.func17 (body_of (by kernel_rfl)) rfl (by simp) (MemOk.none w _) ?_
 refine hgE 27 [oh0,oh0,oh0,oh1,oh0,oh2,oh2,oh0,oh0,oh0,oh2,oh0] [4] [oE ((decide ((c:Int) < 0)) = true) (decide_eq_true hc),n64 ((c + 1)),n64 ((0 - (c + 1))),oE ((0:Int) ≤ (0 - (c + 1)) ∧ (0:Int) < n)] [] [.code [1,1,1]] ⟨[(4,i6 ((0 - (c + 1)) % n))],[],[],w.heap.size⟩ ?_
 refine hrt [] [i6 ((0 - (c + 1)) % n)] [] ?_
 intro wx hm
 refine ⟨?_,hm.kept⟩
 subst h
 simp only [oneOf,pickZ,if_pos hc]
 congr 3
 omega
set_option maxRecDepth 100000 in
set_option maxHeartbeats 4000000 in
theorem pick12_p (c n v:Int) (h:pickZ c n = v) (hc:¬ c < 0) (h1:1 ≤ n) (h2:n ≤ 9223372036854775807) (h3:-9223372036854775808 ≤ c ∧ c ≤ 9223372036854775807) (w:World) :
  Calls Try.prog 17 #[.int .i64 c,.int .i64 n] w (RetK (.int .i64 v) w):=by
 refine calls_of_holds (S:=(fun _=>False)) (l:=[.int .i64 c,.int .i64 n]) (n:=13) Try.func17 (body_of (by kernel_rfl)) rfl (by simp) (MemOk.none w _) ?_
 refine hgE 22 [oh0,oh0,oh0,oh0,oh0,oh0,oh2,oh0] [4] [dF ((c:Int) < 0),oE ((0:Int) ≤ c ∧ (0:Int) < n)] [] [.code [1,1,1]] ⟨[(4,i6 (c % n))],[],[],w.heap.size⟩ ?_
 refine hrt [] [i6 (c % n)] [] ?_
 intro wx hm
 refine ⟨?_,hm.kept⟩
 subst h
 simp only [oneOf,pickZ,if_neg hc]
theorem pick12 (c n v:Int) (h:pickZ c n = v) (w:World) (h1:1 ≤ n) (h2:n ≤ 9223372036854775807) (h3:-9223372036854775808 ≤ c ∧ c ≤ 9223372036854775807):Calls Try.prog 17 #[.int .i64 c,.int .i64 n] w (RetK (.int .i64 v) w):=by
 by_cases hc:c < 0
 ·exact pick12_n c n v h hc h1 h2 h3 w
 ·exact pick12_p c n v h hc h1 h2 h3 w
end Go.Proofs.Ytkffgdfbdmgncaa
namespace Go.Proofs.Ytkffgdfbdmgncaa
open Go.RowKit
set_option maxRecDepth 100000 in
set_option maxHeartbeats 4000000 in
theorem pick8_n (c n v:Int) (h:pickZ c n = v) (hc:c < 0) (h1:1 ≤ n) (h2:n ≤ 9223372036854775807) (h3:-9223372036854775808 ≤ c ∧ c ≤ 9223372036854775807) (w:World) :
  Calls Try.prog 57 #[.int .i64 c,.int .i64 n] w (RetK (.int .i64 v) w):=by
 refine calls_of_holds (S:=(fun _=>False)) (l:=[.int .i64 c,.int .i64 n]) (n:=13) Try.func57 (body_of (by kernel_rfl)) rfl (by simp) (MemOk.none w _) ?_
 refine hgE 27 [oh0,oh0,oh0,oh1,oh0,oh2,oh2,oh0,oh0,oh0,oh2,oh0] [4] [oE ((decide ((c:Int) < 0)) = true) (decide_eq_true hc),n64 ((c + 1)),n64 ((0 - (c + 1))),oE ((0:Int) ≤ (0 - (c + 1)) ∧ (0:Int) < n)] [] [.code [1,1,1]] ⟨[(4,i6 ((0 - (c + 1)) % n))],[],[],w.heap.size⟩ ?_
 refine hrt [] [i6 ((0 - (c + 1)) % n)] [] ?_
 intro wx hm
 refine ⟨?_,hm.kept⟩
 subst h
 simp only [oneOf,pickZ,if_pos hc]
 congr 3
 omega
set_option maxRecDepth 100000 in
set_option maxHeartbeats 4000000 in
theorem pick8_p (c n v:Int) (h:pickZ c n = v) (hc:¬ c < 0) (h1:1 ≤ n) (h2:n ≤ 9223372036854775807) (h3:-9223372036854775808 ≤ c ∧ c ≤ 9223372036854775807) (w:World) :
  Calls Try.prog 57 #[.int .i64 c,.int .i64 n] w (RetK (.int .i64 v) w):=by
 refine calls_of_holds (S:=(fun _=>False)) (l:=[.int .i64 c,.int .i64 n]) (n:=13) Try.func57 (body_of (by kernel_rfl)) rfl (by simp) (MemOk.none w _) ?_
 refine hgE 22 [oh0,oh0,oh0,oh0,oh0,oh0,oh2,oh0] [4] [dF ((c:Int) < 0),oE ((0:Int) ≤ c ∧ (0:Int) < n)] [] [.code [1,1,1]] ⟨[(4,i6 (c % n))],[],[],w.heap.size⟩ ?_
 refine hrt [] [i6 (c % n)] [] ?_
 intro wx hm
 refine ⟨?_,hm.kept⟩
 subst h
 simp only [oneOf,pickZ,if_neg hc]
theorem pick8 (c n v:Int) (h:pickZ c n = v) (w:World) (h1:1 ≤ n) (h2:n ≤ 9223372036854775807) (h3:-9223372036854775808 ≤ c ∧ c ≤ 9223372036854775807):Calls Try.prog 57 #[.int .i64 c,.int .i64 n] w (RetK (.int .i64 v) w):=by
 by_cases hc:c < 0
 ·exact pick8_n c n v h hc h1 h2 h3 w
 ·exact pick8_p c n v h hc h1 h2 h3 w
end Go.Proofs.Ytkffgdfbdmgncaa
