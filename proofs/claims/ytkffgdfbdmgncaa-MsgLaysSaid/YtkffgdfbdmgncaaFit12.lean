import Derived.Test.YtkffgdfbdmgncaaGet12
import Derived.Test.YtkffgdfbdmgncaaPick8
import Derived.Test.YtkffgdfbdmgncaaFit8
import Derived.Test.YtkffgdfbdmgncaaEngJ
namespace Go.Proofs.Ytkffgdfbdmgncaa
open Go.RowKit
structure Raw12 where
 (fr dst id st ep ou:Int)
 (ans:Bool)
 (ask:Raw9)
 (rc:Raw8)
structure Raw12Ok (x:Raw12):Prop where
 hfr:I64 x.fr
 hdst:I64 x.dst
 hid:I64 x.id
 hst:I64 x.st
 hep:I64 x.ep
 hou:I64 x.ou
 hask:Raw9Ok x.ask
 hrc:Raw8Ok x.rc
def partyAt (p:Int):Int:=if p = 6 then 100 else if p = 7 then 200 else if p = 8 then 201 else p
theorem party_get {p:Int} (h:0 ≤ p ∧ p ≤ 8):([.int .i64 0,.int .i64 1,.int .i64 2,.int .i64 3,.int .i64 4,.int .i64 5,.int .i64 100,.int .i64 200,.int .i64 201]:List Value)[p.toNat]? = some (.int .i64 (partyAt p)):=by
 have:p = 0 ∨ p = 1 ∨ p = 2 ∨ p = 3 ∨ p = 4 ∨ p = 5 ∨ p = 6 ∨ p = 7 ∨ p = 8:=by omega
 rcases this with rfl | rfl | rfl | rfl | rfl | rfl | rfl | rfl | rfl <;> rfl
theorem partyAt_ok {p:Int} (h:0 ≤ p ∧ p ≤ 8):partyB (partyAt p) = true:=by
 have:p = 0 ∨ p = 1 ∨ p = 2 ∨ p = 3 ∨ p = 4 ∨ p = 5 ∨ p = 6 ∨ p = 7 ∨ p = 8:=by omega
 rcases this with rfl | rfl | rfl | rfl | rfl | rfl | rfl | rfl | rfl <;> rfl
def fitL (x:Raw12):LetM:=bif x.ans then ⟨partyAt (pickZ x.fr 9),partyAt (pickZ x.dst 9),1 + pickZ x.id 1099511627776,true,zeroQ,⟨1 + pickZ x.st 7,pickZ x.ep 16777216,pickZ x.ou 7 - 1,fitR x.rc⟩⟩ else ⟨partyAt (pickZ x.fr 9),partyAt (pickZ x.dst 9),1 + pickZ x.id 1099511627776,false,fitF x.ask,zeroS⟩
theorem fitL_ok (x:Raw12):rightL (fitL x) = true:=by
 have h1:=pickZ_bd x.fr 9 (by omega)
 have h2:=pickZ_bd x.dst 9 (by omega)
 have h3:=pickZ_bd x.id 1099511627776 (by omega)
 have h4:=pickZ_bd x.st 7 (by omega)
 have h5:=pickZ_bd x.ep 16777216 (by omega)
 have h6:=pickZ_bd x.ou 7 (by omega)
 unfold fitL rightL
 cases x.ans with
 | true=>
  simp only [cond_true]
  rw [partyAt_ok (by omega),partyAt_ok (by omega),decide_eq_false (show ¬ 1 + pickZ x.id 1099511627776 < 1 by omega),decide_eq_false (show ¬ 1 + pickZ x.id 1099511627776 > 1099511627776 by omega)]
  unfold saB
  dsimp only
  rw [decide_eq_false (show ¬ 1 + pickZ x.st 7 < 1 by omega),decide_eq_false (show ¬ 1 + pickZ x.st 7 > 7 by omega),decide_eq_false (show ¬ pickZ x.ep 16777216 < 0 by omega),decide_eq_false (show ¬ pickZ x.ep 16777216 > 16777215 by omega),decide_eq_true (show pickZ x.ou 7 - 1 ≥ -1 by omega),decide_eq_true (show pickZ x.ou 7 - 1 < 6 by omega),(okB_iff _).2 (fitR_ok x.rc)]
  rfl
 | false=>
  simp only [cond_false]
  rw [partyAt_ok (by omega),partyAt_ok (by omega),decide_eq_false (show ¬ 1 + pickZ x.id 1099511627776 < 1 by omega),decide_eq_false (show ¬ 1 + pickZ x.id 1099511627776 > 1099511627776 by omega),rightA_ok (fitF_ok x.ask)]
  rfl
def fl0_v1 (x:Raw12):List Value:=[i6 x.fr,i6 x.dst,i6 x.id,i6 x.st,i6 x.ep,i6 x.ou,.bool false,i6 x.ask.kind,i6 x.ask.stripe,i6 x.ask.epoch,i6 x.ask.seq,i6 x.ask.mask,i6 x.ask.node,i6 x.ask.oe,i6 x.ask.os,sT x.ask.block,i6 x.rc.flags,i6 x.rc.fence,i6 x.rc.epoch,i6 x.rc.seq,i6 x.rc.ie,i6 x.rc.is,i6 x.rc.mask,sT x.rc.block,sT x.rc.staged]
def fl0_v2:List Value:=rp 3 (.int .i64 0) ++ [.bool false] ++ rp 8 (.int .i64 0) ++ [.string ⟨#[]⟩] ++ rp 3 (.int .i64 0) ++ [.bool false] ++ rp 3 (.int .i64 0) ++ [.string ⟨#[]⟩,.bool false] ++ rp 3 (.int .i64 0) ++ [.string ⟨#[]⟩]
def fl0_v3:List Value:=[.int .i64 0,.int .i64 1,.int .i64 2,.int .i64 3,.int .i64 4,.int .i64 5,.int .i64 100,.int .i64 200,.int .i64 201]
def fl0_v4 (p:Int) (q:Int) (d:Int):List Value:=[i6 (partyAt p),i6 (partyAt q),i6 (1 + d),.bool false] ++ rp 8 (i6 0) ++ [sT ⟨#[]⟩,i6 0,i6 0,i6 0,.bool false,i6 0,i6 0,i6 0,sT ⟨#[]⟩,.bool false,i6 0,i6 0,i6 0,sT ⟨#[]⟩]
def fl0_v5 (p:Int) (q:Int) (d:Int) (a:AskM):List Value:=((((((((((fl0_v4 p q d).set 4 (i6 a.kind)).set 5 (i6 a.stripe)).set 6 (i6 a.epoch)).set 7 (i6 a.seq)).set 8 (i6 a.mask)).set 9 (i6 a.node)).set 10 (i6 a.oe)).set 11 (i6 a.os)).set 12 (sT a.block))
def fl0_v6 (x:Raw12):List Value:=[i6 x.ask.kind,i6 x.ask.stripe,i6 x.ask.epoch,i6 x.ask.seq,i6 x.ask.mask,i6 x.ask.node,i6 x.ask.oe,i6 x.ask.os,sT x.ask.block]
def fl0_n1:Array Bool:=#[true,true,true,true,true,true,true,true,true,true,true,true,true,true,true,true,true,true,true,false,false]
def fl0_n2:Array Bool:=#[true,true,true,true,true,true,true,true,true,true,true,true,true,true,true,true,true,true,true,true,false]
def fl0_n3:Array Bool:=#[true,true,true,true,true,true,true,true,true,true,true,true,true,true,true,true,true,true,true,true,true]
@[simp] def fl0_b1 (x:Raw12) (w:World):List Bk:=[⟨w.heap.size,45,false,(fl0_v1 x)⟩,⟨w.heap.size + 1,31,true,(fl0_v2)⟩,⟨w.heap.size + 2,3,false,(fl0_v3)⟩]
@[simp] def fl0_b2 (x:Raw12) (w:World) (g2:Nat):List Bk:=[⟨w.heap.size,45,false,(fl0_v1 x)⟩,⟨w.heap.size + 1,31,true,(fl0_v2)⟩,⟨w.heap.size + 2,3,false,(fl0_v3)⟩,⟨g2,31,true,(fl0_v2)⟩]
@[simp] def fl0_b3 (x:Raw12) (p:Int) (q:Int) (d:Int) (w:World) (g2:Nat):List Bk:=[⟨w.heap.size,45,false,(fl0_v1 x)⟩,⟨w.heap.size + 1,31,true,(fl0_v2)⟩,⟨w.heap.size + 2,3,false,(fl0_v3)⟩,⟨g2,31,true,(fl0_v4 p q d)⟩]
theorem fl0_q2 (x:Raw12) (p:Int) (q:Int) (d:Int) (w:World) (W2:World):Out.prune [1,2,24] (qList Try.prog 50 W2 (Turned (fl0_b1 x w)) ((opsOf (getCode (bodyOf Try.f16) [1,1,0])).toList.take 19) ⟨[(1,(pt w.heap.size 0)),(2,(pt (w.heap.size + 1) 0)),(3,.slice (some ⟨w.heap.size + 2,0,none⟩) 9 9)],(fl0_b1 x w),[⟨w.heap.size + 2,0 + (Int.toNat p) * 1,[i6 (partyAt p)]⟩,⟨w.heap.size + 2,0 + (Int.toNat q) * 1,[i6 (partyAt q)]⟩],W2.heap.size⟩ [.op oh0,.op oh0,.op (oA 0 0 1),.call (i6 p),.op oh2,.op ⟨false,0,[⟨true,0,0,1⟩]⟩,.op oh0,.op oh0,.op (oA 0 1 1),.call (i6 q),.op oh2,.op ⟨false,0,[⟨true,1,0,1⟩]⟩,.op oh0,.op (oA 0 2 1),.call (i6 d),.op oh2,.op oh0,.op (oA 0 6 1),.op oh0]) = some ⟨[∀ w',MemC W2 (Turned (fl0_b1 x w)) (fl0_b1 x w) [⟨w.heap.size + 2,0 + (Int.toNat p) * 1,[i6 (partyAt p)]⟩,⟨w.heap.size + 2,0 + (Int.toNat q) * 1,[i6 (partyAt q)]⟩] W2.heap.size w' → Calls Try.prog 17 #[i6 x.fr,i6 9] w' (RetK (i6 p) w'),(0:Int) ≤ p ∧ p < ((9:Nat):Int),∀ w',MemC W2 (Turned (fl0_b1 x w)) (fl0_b1 x w) [⟨w.heap.size + 2,0 + (Int.toNat p) * 1,[i6 (partyAt p)]⟩,⟨w.heap.size + 2,0 + (Int.toNat q) * 1,[i6 (partyAt q)]⟩] W2.heap.size w' → Calls Try.prog 17 #[i6 x.dst,i6 9] w' (RetK (i6 q) w'),(0:Int) ≤ q ∧ q < ((9:Nat):Int),∀ w',MemC W2 (Turned (fl0_b1 x w)) (fl0_b1 x w) [⟨w.heap.size + 2,0 + (Int.toNat p) * 1,[i6 (partyAt p)]⟩,⟨w.heap.size + 2,0 + (Int.toNat q) * 1,[i6 (partyAt q)]⟩] W2.heap.size w' → Calls Try.prog 17 #[i6 x.id,i6 1099511627776] w' (RetK (i6 d) w'),inR .i64 ((1 + d))],dupR [(w.heap.size,0,1),(w.heap.size + 2,0 + (Int.toNat p) * 1,1),(w.heap.size,1,1),(w.heap.size + 2,0 + (Int.toNat q) * 1,1),(w.heap.size,2,1),(w.heap.size,6,1)],⟨[(1,(pt w.heap.size 0)),(2,(pt (w.heap.size + 1) 0)),(24,.agg (List.toArray (fl0_v4 p q d)))],(fl0_b1 x w),[⟨w.heap.size + 2,0 + (Int.toNat p) * 1,[i6 (partyAt p)]⟩,⟨w.heap.size + 2,0 + (Int.toNat q) * 1,[i6 (partyAt q)]⟩],W2.heap.size⟩⟩:=by kernel_rfl
theorem fl0_t3 (x:Raw12) (p:Int) (q:Int) (d:Int) (w:World) (g2:Nat) (y2:Nat):tailP [1,2,4] (tailX Try.prog 50 (opsOf (getCode (bodyOf Try.f16) [1,1,0])) 1 fl0_n2 ⟨[(4,(pt g2 0)),(1,(pt w.heap.size 0)),(2,(pt (w.heap.size + 1) 0)),(24,.agg (List.toArray (fl0_v4 p q d)))],(fl0_b2 x w g2),[⟨w.heap.size + 2,0 + (Int.toNat p) * 1,[i6 (partyAt p)]⟩,⟨w.heap.size + 2,0 + (Int.toNat q) * 1,[i6 (partyAt q)]⟩],y2⟩ [(20,false,(oA 3 0 26))]) = some (⟨[],dupR [(g2,0,26)],⟨[(1,(pt w.heap.size 0)),(2,(pt (w.heap.size + 1) 0)),(4,(pt g2 0))],(fl0_b3 x p q d w g2),[⟨w.heap.size + 2,0 + (Int.toNat p) * 1,[i6 (partyAt p)]⟩,⟨w.heap.size + 2,0 + (Int.toNat q) * 1,[i6 (partyAt q)]⟩],y2⟩⟩,0,fl0_n3):=by kernel_rfl
theorem fl0_t4 (x:Raw12) (p:Int) (q:Int) (d:Int) (w:World) (y2:Nat):tailP [1,2,4] (tailX Try.prog 50 (opsOf (getCode (bodyOf Try.f16) [1,1,0])) 2 fl0_n1 ⟨[(1,(pt w.heap.size 0)),(2,(pt (w.heap.size + 1) 0)),(24,.agg (List.toArray (fl0_v4 p q d)))],(fl0_b1 x w),[⟨w.heap.size + 2,0 + (Int.toNat p) * 1,[i6 (partyAt p)]⟩,⟨w.heap.size + 2,0 + (Int.toNat q) * 1,[i6 (partyAt q)]⟩],y2⟩ [(19,false,oh0),(20,false,(oA 3 0 26))]) = some (⟨[],dupR [(y2,0,26)],⟨[(1,(pt w.heap.size 0)),(2,(pt (w.heap.size + 1) 0)),(4,(pt y2 0))],[⟨w.heap.size,45,false,(fl0_v1 x)⟩,⟨w.heap.size + 1,31,true,(fl0_v2)⟩,⟨w.heap.size + 2,3,false,(fl0_v3)⟩,⟨y2,31,true,(fl0_v4 p q d)⟩],[⟨w.heap.size + 2,0 + (Int.toNat p) * 1,[i6 (partyAt p)]⟩,⟨w.heap.size + 2,0 + (Int.toNat q) * 1,[i6 (partyAt q)]⟩],y2 + 1⟩⟩,0,fl0_n3):=by kernel_rfl
set_option maxRecDepth 100000 in
set_option maxHeartbeats 4000000 in
theorem fitL_0 (x:Raw12) (p q d :Int) (a:AskM) (hx:Raw12Ok x) (hp:pickZ x.fr 9 = p) (hq:pickZ x.dst 9 = q) (hd:pickZ x.id 1099511627776 = d) (ha:fitF x.ask = a) (w:World) :
  Calls Try.prog 16 #[.agg #[.int .i64 x.fr,.int .i64 x.dst,.int .i64 x.id,.int .i64 x.st,.int .i64 x.ep,.int .i64 x.ou,.bool false,.int .i64 x.ask.kind,.int .i64 x.ask.stripe,.int .i64 x.ask.epoch,.int .i64 x.ask.seq,.int .i64 x.ask.mask,.int .i64 x.ask.node,.int .i64 x.ask.oe,.int .i64 x.ask.os,.string x.ask.block,.int .i64 x.rc.flags,.int .i64 x.rc.fence,.int .i64 x.rc.epoch,.int .i64 x.rc.seq,.int .i64 x.rc.ie,.int .i64 x.rc.is,.int .i64 x.rc.mask,.string x.rc.block,.string x.rc.staged]] w (RetK (.agg #[.int .i64 (partyAt p),.int .i64 (partyAt q),.int .i64 (1 + d),.bool false,.int .i64 a.kind,.int .i64 a.stripe,.int .i64 a.epoch,.int .i64 a.seq,.int .i64 a.mask,.int .i64 a.node,.int .i64 a.oe,.int .i64 a.os,.string a.block,.int .i64 0,.int .i64 0,.int .i64 0,.bool false,.int .i64 0,.int .i64 0,.int .i64 0,.string ⟨#[]⟩,.bool false,.int .i64 0,.int .i64 0,.int .i64 0,.string ⟨#[]⟩]) w):=by
 refine calls_of_holds (S:=(fun _=>False)) (l:=[.agg (List.toArray (fl0_v1 x))]) (n:=50) Try.func16 (body_of (by kernel_rfl)) rfl (by simp) (MemOk.none w _) ?_
 have hpb:=pickZ_bd x.fr 9 (by omega)
 have hqb:=pickZ_bd x.dst 9 (by omega)
 have hdb:=pickZ_bd x.id 1099511627776 (by omega)
 rw [hp] at hpb
 rw [hq] at hqb
 rw [hd] at hdb
 refine hgE 14 [oh0,oh0,oh0,oh0] [1,2,3] [] [] [.code [1,1,0],.code [1,1,1]] ⟨[(1,(pt w.heap.size 0)),(2,(pt (w.heap.size + 1) 0)),(3,.slice (some ⟨w.heap.size + 2,0,none⟩) 9 9)],[⟨w.heap.size,45,true,(fl0_v1 x)⟩,⟨w.heap.size + 1,31,true,(fl0_v2)⟩,⟨w.heap.size + 2,3,true,(fl0_v3)⟩],[],w.heap.size + 3⟩ ?_
 refine holds_gndF [false,true,false] rfl (fun W2 hm hm2=>?_)
 have hPB:=hm2.at_ 2 rfl
 have hPT:¬ Turned (fl0_b1 x w) (w.heap.size + 2):=by
  rintro ⟨b,hb,hr,he⟩
  simp at hb
  rcases hb with rfl | rfl | rfl <;> simp at hr he
 refine holds_wins [⟨w.heap.size + 2,0 + (Int.toNat p) * 1,[i6 (partyAt p)]⟩,⟨w.heap.size + 2,0 + (Int.toNat q) * 1,[i6 (partyAt q)]⟩] (fun _ y hy=>?_) ?_
 ·simp only [List.mem_cons,List.not_mem_nil,or_false] at hy
  rcases hy with rfl | rfl
  ·refine ⟨hPT,hPB.lt,fun j v hj=>?_⟩
   match j,hj with
   | 0,hj=>
    simp only [List.getElem?_cons_zero,Option.some.injEq] at hj
    subst hj
    exact hPB.at_ (i:=0 + (Int.toNat p) * 1) (by rw [Nat.zero_add,Nat.mul_one]; exact party_get (by omega))
   | j + 1,hj=>simp at hj
  ·refine ⟨hPT,hPB.lt,fun j v hj=>?_⟩
   match j,hj with
   | 0,hj=>
    simp only [List.getElem?_cons_zero,Option.some.injEq] at hj
    subst hj
    exact hPB.at_ (i:=0 + (Int.toNat q) * 1) (by rw [Nat.zero_add,Nat.mul_one]; exact party_get (by omega))
   | j + 1,hj=>simp at hj
 have HZ:∀ (g2 y2:Nat),W2.heap.size ≤ g2 → W2.heap.size ≤ y2 → Holds [] Try.prog (bodyOf Try.f16) 50 W2 (Turned (fl0_b1 x w)) (bodyPost Try.prog Try.f16 (RetK (.agg (List.toArray (fl0_v5 p q d a))) w)) [.code [1,1,1]] ⟨[(1,(pt w.heap.size 0)),(2,(pt (w.heap.size + 1) 0)),(4,(pt g2 0))],(fl0_b3 x p q d w g2),[⟨w.heap.size + 2,0 + (Int.toNat p) * 1,[.int .i64 (partyAt p)]⟩,⟨w.heap.size + 2,0 + (Int.toNat q) * 1,[.int .i64 (partyAt q)]⟩],y2⟩:=by
  intro g2 y2 hg2 hy2
  refine hgE 15 [oh0,(oA 3 3 1),oh0,oh1,oh0,(oA 0 7 9)] [1,2,4,29] [tT] [(g2,3,1),(w.heap.size,7,9)] [.ops [1,1,1,0,1,0,0] [2,3,4],.code [1,1,1,0,1,0,1],.code [1,1,1,1]] ⟨[(1,(pt w.heap.size 0)),(2,(pt (w.heap.size + 1) 0)),(4,(pt g2 0)),(29,.agg (List.toArray (fl0_v6 x)))],(fl0_b3 x p q d w g2),[⟨w.heap.size + 2,0 + (Int.toNat p) * 1,[i6 (partyAt p)]⟩,⟨w.heap.size + 2,0 + (Int.toNat q) * 1,[i6 (partyAt q)]⟩],y2⟩ ?_
  refine hcp (.agg #[i6 a.kind,i6 a.stripe,i6 a.epoch,i6 a.seq,i6 a.mask,i6 a.node,i6 a.oe,i6 a.os,sT a.block]) 18 [.agg (List.toArray (fl0_v6 x))] (some 30) [] tI rfl (fun wx hm=>fitP x.ask a ha wx hx.hask) fun z6 hz6=>?_
  replace hz6:y2 ≤ z6:=hz6
  refine hgE 11 [oh0,(oA 3 4 9),(oA 3 0 26),(oA 1 0 26)] [1,2,4] [] [(g2,4,9),(g2,0,26),(w.heap.size + 1,0,26)] [.code [1,1,1,0,1,0,1,1],.code [1,1,1,1]] ⟨[(1,(pt w.heap.size 0)),(2,(pt (w.heap.size + 1) 0)),(4,(pt g2 0))],[⟨w.heap.size,45,false,(fl0_v1 x)⟩,⟨w.heap.size + 1,31,true,(fl0_v5 p q d a)⟩,⟨w.heap.size + 2,3,false,(fl0_v3)⟩,⟨g2,31,true,(fl0_v5 p q d a)⟩],[⟨w.heap.size + 2,0 + (Int.toNat p) * 1,[i6 (partyAt p)]⟩,⟨w.heap.size + 2,0 + (Int.toNat q) * 1,[i6 (partyAt q)]⟩],z6⟩ ?_
  refine hrt [[⟨false,1,0,26⟩]] [.agg (List.toArray (fl0_v5 p q d a))] [(w.heap.size + 1,0,26)] ?_
  intro wx hm
  exact ⟨rfl,(hm2.bck hm).kept⟩
 have H1:∀ (g2 y2:Nat),W2.heap.size ≤ g2 → W2.heap.size ≤ y2 → Holds [] Try.prog (bodyOf Try.f16) 50 W2 (Turned (fl0_b1 x w)) (bodyPost Try.prog Try.f16 (RetK (.agg (List.toArray (fl0_v5 p q d a))) w)) (.any [1,1,0] 1 fl0_n2 :: [.code [1,1,1]]) ⟨[(4,(pt g2 0)),(1,(pt w.heap.size 0)),(2,(pt (w.heap.size + 1) 0)),(24,.agg (List.toArray (fl0_v4 p q d)))],(fl0_b2 x w g2),[⟨w.heap.size + 2,0 + (Int.toNat p) * 1,[.int .i64 (partyAt p)]⟩,⟨w.heap.size + 2,0 + (Int.toNat q) * 1,[.int .i64 (partyAt q)]⟩],y2⟩:=by
  intro g2 y2 hg2 hy2
  refine holds_tail panicOk_body _ _ (fl0_t3 x p q d w g2 y2) trivial ?_
  refine holds_done (by kernel_rfl) ?_
  exact HZ g2 _ (by omega) (by omega)
 refine holds_float (fl:=19) (t:=31) (d:=4) (cs:=(fl0_v2)) (ls0:=fl0_n1) (ls1:=fl0_n2) (f:=1) 19 _ _ (by kernel_rfl) (by kernel_rfl) (by kernel_rfl) (by kernel_rfl) (by decide) (by kernel_rfl) (by kernel_rfl) (by kernel_rfl) (fl0_q2 x p q d w W2) ⟨(fun wx hm=>pick12 _ _ _ hp wx (by omega) (by omega) hx.hfr),⟨by omega,by omega⟩,(fun wx hm=>pick12 _ _ _ hq wx (by omega) (by omega) hx.hdst),⟨by omega,by omega⟩,(fun wx hm=>pick12 _ _ _ hd wx (by omega) (by omega) hx.hid),in64 (by omega),trivial⟩ H1 ?_
 intro y2 hy2
 replace hy2:W2.heap.size ≤ y2:=hy2
 refine holds_tail panicOk_body _ _ (fl0_t4 x p q d w y2) trivial ?_
 refine holds_done (by kernel_rfl) ?_
 exact HZ _ _ (by omega) (by omega)
def fl1_v1 (x:Raw12):List Value:=((fl0_v1 x).set 6 (.bool true))
def fl1_v2:List Value:=fl0_v2
def fl1_v3:List Value:=fl0_v3
def fl1_v4 (p:Int) (q:Int) (d:Int):List Value:=((fl0_v4 p q d).set 3 (.bool true))
def fl1_v5 (x:Raw12):List Value:=[i6 x.rc.flags,i6 x.rc.fence,i6 x.rc.epoch,i6 x.rc.seq,i6 x.rc.ie,i6 x.rc.is,i6 x.rc.mask,sT x.rc.block,sT x.rc.staged]
def fl1_v6 (r:RecM):List Value:=[.bool r.used,i6 r.fence,i6 r.de,i6 r.ds,sT r.block,.bool r.op,i6 r.ie,i6 r.is,i6 r.mask,sT r.staged]
def fl1_v7 (p:Int) (q:Int) (d:Int) (t:Int) (e:Int) (o:Int) (r:RecM):List Value:=[i6 (partyAt p),i6 (partyAt q),i6 (1 + d),.bool true] ++ rp 8 (i6 0) ++ [sT ⟨#[]⟩,i6 (1 + t),i6 e,i6 (o - 1),.bool r.used,i6 r.fence,i6 r.de,i6 r.ds,sT r.block,.bool r.op,i6 r.ie,i6 r.is,i6 r.mask,sT r.staged]
def fl1_n1:Array Bool:=#[true,true,true,true,true,true,true,true,true,true,true,true,true,true,true,true,true,true,true,false,false]
def fl1_n2:Array Bool:=#[true,true,true,true,true,true,true,true,true,true,true,true,true,true,true,true,true,true,true,true,false]
def fl1_n3:Array Bool:=#[true,true,true,true,true,true,true,true,true,true,true,true,true,true,true,true,true,true,true,true,true]
@[simp] def fl1_b1 (x:Raw12) (w:World):List Bk:=[⟨w.heap.size,45,false,(fl1_v1 x)⟩,⟨w.heap.size + 1,31,true,(fl1_v2)⟩,⟨w.heap.size + 2,3,false,(fl1_v3)⟩]
@[simp] def fl1_b2 (x:Raw12) (w:World) (g2:Nat):List Bk:=[⟨w.heap.size,45,false,(fl1_v1 x)⟩,⟨w.heap.size + 1,31,true,(fl1_v2)⟩,⟨w.heap.size + 2,3,false,(fl1_v3)⟩,⟨g2,31,true,(fl1_v2)⟩]
@[simp] def fl1_b3 (x:Raw12) (p:Int) (q:Int) (d:Int) (w:World) (g2:Nat):List Bk:=[⟨w.heap.size,45,false,(fl1_v1 x)⟩,⟨w.heap.size + 1,31,true,(fl1_v2)⟩,⟨w.heap.size + 2,3,false,(fl1_v3)⟩,⟨g2,31,true,(fl1_v4 p q d)⟩]
@[simp] def fl1_b4 (x:Raw12) (p:Int) (q:Int) (d:Int) (t:Int) (e:Int) (o:Int) (r:RecM) (w:World) (g2:Nat):List Bk:=[⟨w.heap.size,45,false,(fl1_v1 x)⟩,⟨w.heap.size + 1,31,true,(fl1_v2)⟩,⟨w.heap.size + 2,3,false,(fl1_v3)⟩,⟨g2,31,true,(fl1_v7 p q d t e o r)⟩]
theorem fl1_q2 (x:Raw12) (p:Int) (q:Int) (d:Int) (w:World) (W2:World):Out.prune [1,2,24] (qList Try.prog 50 W2 (Turned (fl1_b1 x w)) ((opsOf (getCode (bodyOf Try.f16) [1,1,0])).toList.take 19) ⟨[(1,(pt w.heap.size 0)),(2,(pt (w.heap.size + 1) 0)),(3,.slice (some ⟨w.heap.size + 2,0,none⟩) 9 9)],(fl1_b1 x w),[⟨w.heap.size + 2,0 + (Int.toNat p) * 1,[i6 (partyAt p)]⟩,⟨w.heap.size + 2,0 + (Int.toNat q) * 1,[i6 (partyAt q)]⟩],W2.heap.size⟩ [.op oh0,.op oh0,.op (oA 0 0 1),.call (i6 p),.op oh2,.op ⟨false,0,[⟨true,0,0,1⟩]⟩,.op oh0,.op oh0,.op (oA 0 1 1),.call (i6 q),.op oh2,.op ⟨false,0,[⟨true,1,0,1⟩]⟩,.op oh0,.op (oA 0 2 1),.call (i6 d),.op oh2,.op oh0,.op (oA 0 6 1),.op oh0]) = some ⟨[∀ w',MemC W2 (Turned (fl1_b1 x w)) (fl1_b1 x w) [⟨w.heap.size + 2,0 + (Int.toNat p) * 1,[i6 (partyAt p)]⟩,⟨w.heap.size + 2,0 + (Int.toNat q) * 1,[i6 (partyAt q)]⟩] W2.heap.size w' → Calls Try.prog 17 #[i6 x.fr,i6 9] w' (RetK (i6 p) w'),(0:Int) ≤ p ∧ p < ((9:Nat):Int),∀ w',MemC W2 (Turned (fl1_b1 x w)) (fl1_b1 x w) [⟨w.heap.size + 2,0 + (Int.toNat p) * 1,[i6 (partyAt p)]⟩,⟨w.heap.size + 2,0 + (Int.toNat q) * 1,[i6 (partyAt q)]⟩] W2.heap.size w' → Calls Try.prog 17 #[i6 x.dst,i6 9] w' (RetK (i6 q) w'),(0:Int) ≤ q ∧ q < ((9:Nat):Int),∀ w',MemC W2 (Turned (fl1_b1 x w)) (fl1_b1 x w) [⟨w.heap.size + 2,0 + (Int.toNat p) * 1,[i6 (partyAt p)]⟩,⟨w.heap.size + 2,0 + (Int.toNat q) * 1,[i6 (partyAt q)]⟩] W2.heap.size w' → Calls Try.prog 17 #[i6 x.id,i6 1099511627776] w' (RetK (i6 d) w'),inR .i64 ((1 + d))],dupR [(w.heap.size,0,1),(w.heap.size + 2,0 + (Int.toNat p) * 1,1),(w.heap.size,1,1),(w.heap.size + 2,0 + (Int.toNat q) * 1,1),(w.heap.size,2,1),(w.heap.size,6,1)],⟨[(1,(pt w.heap.size 0)),(2,(pt (w.heap.size + 1) 0)),(24,.agg (List.toArray (fl1_v4 p q d)))],(fl1_b1 x w),[⟨w.heap.size + 2,0 + (Int.toNat p) * 1,[i6 (partyAt p)]⟩,⟨w.heap.size + 2,0 + (Int.toNat q) * 1,[i6 (partyAt q)]⟩],W2.heap.size⟩⟩:=by kernel_rfl
theorem fl1_t3 (x:Raw12) (p:Int) (q:Int) (d:Int) (w:World) (g2:Nat) (y2:Nat):tailP [1,2,4] (tailX Try.prog 50 (opsOf (getCode (bodyOf Try.f16) [1,1,0])) 1 fl1_n2 ⟨[(4,(pt g2 0)),(1,(pt w.heap.size 0)),(2,(pt (w.heap.size + 1) 0)),(24,.agg (List.toArray (fl1_v4 p q d)))],(fl1_b2 x w g2),[⟨w.heap.size + 2,0 + (Int.toNat p) * 1,[i6 (partyAt p)]⟩,⟨w.heap.size + 2,0 + (Int.toNat q) * 1,[i6 (partyAt q)]⟩],y2⟩ [(20,false,(oA 3 0 26))]) = some (⟨[],dupR [(g2,0,26)],⟨[(1,(pt w.heap.size 0)),(2,(pt (w.heap.size + 1) 0)),(4,(pt g2 0))],(fl1_b3 x p q d w g2),[⟨w.heap.size + 2,0 + (Int.toNat p) * 1,[i6 (partyAt p)]⟩,⟨w.heap.size + 2,0 + (Int.toNat q) * 1,[i6 (partyAt q)]⟩],y2⟩⟩,0,fl1_n3):=by kernel_rfl
theorem fl1_t4 (x:Raw12) (p:Int) (q:Int) (d:Int) (w:World) (y2:Nat):tailP [1,2,4] (tailX Try.prog 50 (opsOf (getCode (bodyOf Try.f16) [1,1,0])) 2 fl1_n1 ⟨[(1,(pt w.heap.size 0)),(2,(pt (w.heap.size + 1) 0)),(24,.agg (List.toArray (fl1_v4 p q d)))],(fl1_b1 x w),[⟨w.heap.size + 2,0 + (Int.toNat p) * 1,[i6 (partyAt p)]⟩,⟨w.heap.size + 2,0 + (Int.toNat q) * 1,[i6 (partyAt q)]⟩],y2⟩ [(19,false,oh0),(20,false,(oA 3 0 26))]) = some (⟨[],dupR [(y2,0,26)],⟨[(1,(pt w.heap.size 0)),(2,(pt (w.heap.size + 1) 0)),(4,(pt y2 0))],[⟨w.heap.size,45,false,(fl1_v1 x)⟩,⟨w.heap.size + 1,31,true,(fl1_v2)⟩,⟨w.heap.size + 2,3,false,(fl1_v3)⟩,⟨y2,31,true,(fl1_v4 p q d)⟩],[⟨w.heap.size + 2,0 + (Int.toNat p) * 1,[i6 (partyAt p)]⟩,⟨w.heap.size + 2,0 + (Int.toNat q) * 1,[i6 (partyAt q)]⟩],y2 + 1⟩⟩,0,fl1_n3):=by kernel_rfl
def fl1_g6s (w:World) (g2:Nat):List (Nat × Value):=[(1,(pt w.heap.size 0)),(2,(pt (w.heap.size + 1) 0)),(4,(pt g2 0))]
def fl1_g6v (x:Raw12) (t:Int) (e:Int) (o:Int) (r:RecM) (w:World) (g2:Nat):List (Option Value):=[some ((pt w.heap.size 3)),some (i6 x.st),some (i6 t),some (i6 (1 + t)),some ((pt w.heap.size 4)),some (i6 x.ep),some (i6 e),some ((pt w.heap.size 5)),some (i6 x.ou),some (i6 o),some (i6 (o - 1)),some ((pt w.heap.size 16)),some (.agg (List.toArray (fl1_v5 x))),some (.agg (List.toArray (fl1_v6 r))),some (.agg #[i6 (1 + t),i6 e,i6 (o - 1),.bool r.used,i6 r.fence,i6 r.de,i6 r.ds,sT r.block,.bool r.op,i6 r.ie,i6 r.is,i6 r.mask,sT r.staged]),some ((pt g2 13)),some (.tuple #[])]
def fl1_g6m (x:Raw12) (p:Int) (q:Int) (d:Int) (t:Int) (e:Int) (o:Int) (r:RecM) (w:World) (g2:Nat):List (List Bk):=[(fl1_b3 x p q d w g2),(fl1_b4 x p q d t e o r w g2)]
def fl1_g6t:List (Option Nat):=[none,none,none,none,none,none,none,none,none,none,none,none,none,none,none,none,some 0]
theorem fl1_g6_2 (x:Raw12) (t:Int) (e:Int) (o:Int) (r:RecM) (w:World) (g2:Nat):callAt Try.prog (opsOf (getCode (bodyOf Try.f16) [1,1,1,1,0])) (slG (opsOf (getCode (bodyOf Try.f16) [1,1,1,1,0])) (fl1_g6v x t e o r w g2) (slI (opsOf (getCode (bodyOf Try.f16) [1,1,1,1,0])) (fl1_g6s w g2) 2) (needsOf (opsOf (getCode (bodyOf Try.f16) [1,1,1,1,0])) 2)) 2 = some (17,[i6 x.st,i6 7],dstOf (opsOf (getCode (bodyOf Try.f16) [1,1,1,1,0])) 2,[]):=by kernel_rfl
theorem fl1_g6_6 (x:Raw12) (t:Int) (e:Int) (o:Int) (r:RecM) (w:World) (g2:Nat):callAt Try.prog (opsOf (getCode (bodyOf Try.f16) [1,1,1,1,0])) (slG (opsOf (getCode (bodyOf Try.f16) [1,1,1,1,0])) (fl1_g6v x t e o r w g2) (slI (opsOf (getCode (bodyOf Try.f16) [1,1,1,1,0])) (fl1_g6s w g2) 6) (needsOf (opsOf (getCode (bodyOf Try.f16) [1,1,1,1,0])) 6)) 6 = some (17,[i6 x.ep,i6 16777216],dstOf (opsOf (getCode (bodyOf Try.f16) [1,1,1,1,0])) 6,[]):=by kernel_rfl
theorem fl1_g6_9 (x:Raw12) (t:Int) (e:Int) (o:Int) (r:RecM) (w:World) (g2:Nat):callAt Try.prog (opsOf (getCode (bodyOf Try.f16) [1,1,1,1,0])) (slG (opsOf (getCode (bodyOf Try.f16) [1,1,1,1,0])) (fl1_g6v x t e o r w g2) (slI (opsOf (getCode (bodyOf Try.f16) [1,1,1,1,0])) (fl1_g6s w g2) 9) (needsOf (opsOf (getCode (bodyOf Try.f16) [1,1,1,1,0])) 9)) 9 = some (17,[i6 x.ou,i6 7],dstOf (opsOf (getCode (bodyOf Try.f16) [1,1,1,1,0])) 9,[]):=by kernel_rfl
theorem fl1_g6_13 (x:Raw12) (t:Int) (e:Int) (o:Int) (r:RecM) (w:World) (g2:Nat):callAt Try.prog (opsOf (getCode (bodyOf Try.f16) [1,1,1,1,0])) (slG (opsOf (getCode (bodyOf Try.f16) [1,1,1,1,0])) (fl1_g6v x t e o r w g2) (slI (opsOf (getCode (bodyOf Try.f16) [1,1,1,1,0])) (fl1_g6s w g2) 13) (needsOf (opsOf (getCode (bodyOf Try.f16) [1,1,1,1,0])) 13)) 13 = some (39,[.agg (List.toArray (fl1_v5 x))],dstOf (opsOf (getCode (bodyOf Try.f16) [1,1,1,1,0])) 13,[]):=by kernel_rfl
theorem fl1_g6_16 (x:Raw12) (p:Int) (q:Int) (d:Int) (t:Int) (e:Int) (o:Int) (r:RecM) (w:World) (g2:Nat):∀ sz,opG Try.prog (opsOf (getCode (bodyOf Try.f16) [1,1,1,1,0])) ⟨slG (opsOf (getCode (bodyOf Try.f16) [1,1,1,1,0])) (fl1_g6v x t e o r w g2) (slI (opsOf (getCode (bodyOf Try.f16) [1,1,1,1,0])) (fl1_g6s w g2) 16) (needsOf (opsOf (getCode (bodyOf Try.f16) [1,1,1,1,0])) 16),(fl1_b3 x p q d w g2),[⟨w.heap.size + 2,0 + (Int.toNat p) * 1,[i6 (partyAt p)]⟩,⟨w.heap.size + 2,0 + (Int.toNat q) * 1,[i6 (partyAt q)]⟩],sz⟩ 16 (oA 3 13 13) = some ([],dupR [(g2,13,13)],undef,(fl1_b4 x p q d t e o r w g2),sz):=fun sz=>by kernel_rfl
def fl1_g6C (x:Raw12) (p:Int) (q:Int) (d:Int) (t:Int) (e:Int) (o:Int) (r:RecM) (w:World) (W2:World) (g2:Nat) (y2:Nat) (i_:Nat):Prop:=CertG (wpOp Try.prog (opsOf (getCode (bodyOf Try.f16) [1,1,1,1,0])) (sem Try.prog (bodyOf Try.f16) (bodyPost Try.prog Try.f16 (RetK (.agg (List.toArray (fl1_v7 p q d t e o r))) w)) [.code [1,1,1,1,1]])) [] 50 (opsOf (getCode (bodyOf Try.f16) [1,1,1,1,0])) (slI (opsOf (getCode (bodyOf Try.f16) [1,1,1,1,0])) (fl1_g6s w g2) i_) (fl1_g6t) 1 (MG W2 (Turned (fl1_b1 x w)) (fl1_g6m x p q d t e o r w g2) [⟨w.heap.size + 2,0 + (Int.toNat p) * 1,[i6 (partyAt p)]⟩,⟨w.heap.size + 2,0 + (Int.toNat q) * 1,[i6 (partyAt q)]⟩] y2) (Turned (fl1_b3 x p q d w g2)) (PvG (fl1_g6v x t e o r w g2) (fun _ _ _=>False)) i_
set_option maxRecDepth 100000 in
set_option maxHeartbeats 4000000 in
theorem fitL_1 (x:Raw12) (p q d t e o:Int) (r:RecM) (hx:Raw12Ok x) (hp:pickZ x.fr 9 = p) (hq:pickZ x.dst 9 = q) (hd:pickZ x.id 1099511627776 = d) (ht:pickZ x.st 7 = t) (he:pickZ x.ep 16777216 = e) (ho:pickZ x.ou 7 = o) (hr:fitR x.rc = r) (w:World) :
  Calls Try.prog 16 #[.agg #[.int .i64 x.fr,.int .i64 x.dst,.int .i64 x.id,.int .i64 x.st,.int .i64 x.ep,.int .i64 x.ou,.bool true,.int .i64 x.ask.kind,.int .i64 x.ask.stripe,.int .i64 x.ask.epoch,.int .i64 x.ask.seq,.int .i64 x.ask.mask,.int .i64 x.ask.node,.int .i64 x.ask.oe,.int .i64 x.ask.os,.string x.ask.block,.int .i64 x.rc.flags,.int .i64 x.rc.fence,.int .i64 x.rc.epoch,.int .i64 x.rc.seq,.int .i64 x.rc.ie,.int .i64 x.rc.is,.int .i64 x.rc.mask,.string x.rc.block,.string x.rc.staged]] w (RetK (.agg #[.int .i64 (partyAt p),.int .i64 (partyAt q),.int .i64 (1 + d),.bool true,.int .i64 0,.int .i64 0,.int .i64 0,.int .i64 0,.int .i64 0,.int .i64 0,.int .i64 0,.int .i64 0,.string ⟨#[]⟩,.int .i64 (1 + t),.int .i64 e,.int .i64 (o - 1),.bool r.used,.int .i64 r.fence,.int .i64 r.de,.int .i64 r.ds,.string r.block,.bool r.op,.int .i64 r.ie,.int .i64 r.is,.int .i64 r.mask,.string r.staged]) w):=by
 refine calls_of_holds (S:=(fun _=>False)) (l:=[.agg (List.toArray (fl1_v1 x))]) (n:=50) Try.func16 (body_of (by kernel_rfl)) rfl (by simp) (MemOk.none w _) ?_
 have hpb:=pickZ_bd x.fr 9 (by omega)
 have hqb:=pickZ_bd x.dst 9 (by omega)
 have hdb:=pickZ_bd x.id 1099511627776 (by omega)
 rw [hp] at hpb
 rw [hq] at hqb
 rw [hd] at hdb
 have htb:=pickZ_bd x.st 7 (by omega)
 have heb:=pickZ_bd x.ep 16777216 (by omega)
 have hob:=pickZ_bd x.ou 7 (by omega)
 rw [ht] at htb
 rw [he] at heb
 rw [ho] at hob
 refine hgE 14 [oh0,oh0,oh0,oh0] [1,2,3] [] [] [.code [1,1,0],.code [1,1,1]] ⟨[(1,(pt w.heap.size 0)),(2,(pt (w.heap.size + 1) 0)),(3,.slice (some ⟨w.heap.size + 2,0,none⟩) 9 9)],[⟨w.heap.size,45,true,(fl1_v1 x)⟩,⟨w.heap.size + 1,31,true,(fl1_v2)⟩,⟨w.heap.size + 2,3,true,(fl1_v3)⟩],[],w.heap.size + 3⟩ ?_
 refine holds_gndF [false,true,false] rfl (fun W2 hm hm2=>?_)
 have hPB:=hm2.at_ 2 rfl
 have hPT:¬ Turned (fl1_b1 x w) (w.heap.size + 2):=by
  rintro ⟨b,hb,hr,he⟩
  simp at hb
  rcases hb with rfl | rfl | rfl <;> simp at hr he
 refine holds_wins [⟨w.heap.size + 2,0 + (Int.toNat p) * 1,[i6 (partyAt p)]⟩,⟨w.heap.size + 2,0 + (Int.toNat q) * 1,[i6 (partyAt q)]⟩] (fun _ y hy=>?_) ?_
 ·simp only [List.mem_cons,List.not_mem_nil,or_false] at hy
  rcases hy with rfl | rfl
  ·refine ⟨hPT,hPB.lt,fun j v hj=>?_⟩
   match j,hj with
   | 0,hj=>
    simp only [List.getElem?_cons_zero,Option.some.injEq] at hj
    subst hj
    exact hPB.at_ (i:=0 + (Int.toNat p) * 1) (by rw [Nat.zero_add,Nat.mul_one]; exact party_get (by omega))
   | j + 1,hj=>simp at hj
  ·refine ⟨hPT,hPB.lt,fun j v hj=>?_⟩
   match j,hj with
   | 0,hj=>
    simp only [List.getElem?_cons_zero,Option.some.injEq] at hj
    subst hj
    exact hPB.at_ (i:=0 + (Int.toNat q) * 1) (by rw [Nat.zero_add,Nat.mul_one]; exact party_get (by omega))
   | j + 1,hj=>simp at hj
 have HZ:∀ (g2 y2:Nat),W2.heap.size ≤ g2 → W2.heap.size ≤ y2 → Holds [] Try.prog (bodyOf Try.f16) 50 W2 (Turned (fl1_b1 x w)) (bodyPost Try.prog Try.f16 (RetK (.agg (List.toArray (fl1_v7 p q d t e o r))) w)) [.code [1,1,1]] ⟨[(1,(pt w.heap.size 0)),(2,(pt (w.heap.size + 1) 0)),(4,(pt g2 0))],(fl1_b3 x p q d w g2),[⟨w.heap.size + 2,0 + (Int.toNat p) * 1,[.int .i64 (partyAt p)]⟩,⟨w.heap.size + 2,0 + (Int.toNat q) * 1,[.int .i64 (partyAt q)]⟩],y2⟩:=by
  intro g2 y2 hg2 hy2
  refine hgE 13 [oh0,(oA 3 3 1),oh0,oh0] [1,2,4] [fF] [(g2,3,1)] [.code [1,1,1,1,0],.code [1,1,1,1,1]] ⟨[(1,(pt w.heap.size 0)),(2,(pt (w.heap.size + 1) 0)),(4,(pt g2 0))],(fl1_b3 x p q d w g2),[⟨w.heap.size + 2,0 + (Int.toNat p) * 1,[i6 (partyAt p)]⟩,⟨w.heap.size + 2,0 + (Int.toNat q) * 1,[i6 (partyAt q)]⟩],y2⟩ ?_
  have fl1_g6_c2:fl1_g6C x p q d t e o r w W2 g2 y2 2:=cert_call (v:=.int .i64 t) (by kernel_rfl) (by kernel_rfl) (fl1_g6_2 x t e o r w g2) trivial (fun j wx _ hm=>pick12 _ _ _ ht wx (by omega) (by omega) hx.hst)
  have fl1_g6_c6:fl1_g6C x p q d t e o r w W2 g2 y2 6:=cert_call (v:=.int .i64 e) (by kernel_rfl) (by kernel_rfl) (fl1_g6_6 x t e o r w g2) trivial (fun j wx _ hm=>pick12 _ _ _ he wx (by omega) (by omega) hx.hep)
  have fl1_g6_c9:fl1_g6C x p q d t e o r w W2 g2 y2 9:=cert_call (v:=.int .i64 o) (by kernel_rfl) (by kernel_rfl) (fl1_g6_9 x t e o r w g2) trivial (fun j wx _ hm=>pick12 _ _ _ ho wx (by omega) (by omega) hx.hou)
  have fl1_g6_c13:fl1_g6C x p q d t e o r w W2 g2 y2 13:=cert_call (v:=.agg (List.toArray (fl1_v6 r))) (by kernel_rfl) (by kernel_rfl) (fl1_g6_13 x t e o r w g2) trivial (fun j wx _ hm=>by have h:=fitR_any x.rc hx.hrc wx; rw [hr] at h; exact h)
  have fl1_g6_c16:fl1_g6C x p q d t e o r w W2 g2 y2 16:=cert_store (s:=0) (v:=undef) (by kernel_rfl) (by kernel_rfl) (by kernel_rfl) (by kernel_rfl) (by kernel_rfl) (fl1_g6_16 x p q d t e o r w g2) trivial
  have fl1_g6_R:∀ e_ ∈ (rZs [0,4,7,11,14,15] ++ [⟨1,⟨false,0,[⟨false,0,3,1⟩]⟩,[],[(w.heap.size,3,1)]⟩,⟨3,oh2,[n64 ((1 + t))],[]⟩,⟨5,⟨false,0,[⟨false,0,4,1⟩]⟩,[],[(w.heap.size,4,1)]⟩,⟨8,⟨false,0,[⟨false,0,5,1⟩]⟩,[],[(w.heap.size,5,1)]⟩,⟨10,oh2,[n64 ((o - 1))],[]⟩,⟨12,⟨false,0,[⟨false,0,16,9⟩]⟩,[],[(w.heap.size,16,9)]⟩]:List RegE),fl1_g6C x p q d t e o r w W2 g2 y2 e_.i:=certs_reg (by kernel_rfl) _ (fun sz=>by kernel_rfl)
  refine holds_mixG (vs:=(fl1_g6v x t e o r w g2)) (ms:=(fl1_g6m x p q d t e o r w g2)) (stg:=(fl1_g6t)) (J:=1) (sl':=[(2,(pt (w.heap.size + 1) 0)),(4,(pt g2 0))]) (bk':=(fl1_b4 x p q d t e o r w g2)) (fun _ _ _=>False) [2,4] (by kernel_rfl) (by kernel_rfl) (by kernel_rfl) (fun _ _ _ _ h=>h.elim) (certs_mix fl1_g6_R [2,6,9,13,16] ⟨fl1_g6_c2,fl1_g6_c6,fl1_g6_c9,fl1_g6_c13,fl1_g6_c16,tI⟩ (by kernel_rfl)) (by kernel_rfl) (by kernel_rfl) (by kernel_rfl) (fun z6 hz6=>?_)
  replace hz6:y2 ≤ z6:=hz6
  refine hgE 8 [(oA 3 0 26),(oA 1 0 26)] [2] [] [(g2,0,26),(w.heap.size + 1,0,26)] [.code [1,1,1,1,1,1]] ⟨[(2,(pt (w.heap.size + 1) 0))],[⟨w.heap.size,45,false,(fl1_v1 x)⟩,⟨w.heap.size + 1,31,true,(fl1_v7 p q d t e o r)⟩,⟨w.heap.size + 2,3,false,(fl1_v3)⟩,⟨g2,31,true,(fl1_v7 p q d t e o r)⟩],[⟨w.heap.size + 2,0 + (Int.toNat p) * 1,[i6 (partyAt p)]⟩,⟨w.heap.size + 2,0 + (Int.toNat q) * 1,[i6 (partyAt q)]⟩],z6⟩ ?_
  refine hrt [[⟨false,1,0,26⟩]] [.agg (List.toArray (fl1_v7 p q d t e o r))] [(w.heap.size + 1,0,26)] ?_
  intro wx hm
  exact ⟨rfl,(hm2.bck hm).kept⟩
 have H1:∀ (g2 y2:Nat),W2.heap.size ≤ g2 → W2.heap.size ≤ y2 → Holds [] Try.prog (bodyOf Try.f16) 50 W2 (Turned (fl1_b1 x w)) (bodyPost Try.prog Try.f16 (RetK (.agg (List.toArray (fl1_v7 p q d t e o r))) w)) (.any [1,1,0] 1 fl1_n2 :: [.code [1,1,1]]) ⟨[(4,(pt g2 0)),(1,(pt w.heap.size 0)),(2,(pt (w.heap.size + 1) 0)),(24,.agg (List.toArray (fl1_v4 p q d)))],(fl1_b2 x w g2),[⟨w.heap.size + 2,0 + (Int.toNat p) * 1,[.int .i64 (partyAt p)]⟩,⟨w.heap.size + 2,0 + (Int.toNat q) * 1,[.int .i64 (partyAt q)]⟩],y2⟩:=by
  intro g2 y2 hg2 hy2
  refine holds_tail panicOk_body _ _ (fl1_t3 x p q d w g2 y2) trivial ?_
  refine holds_done (by kernel_rfl) ?_
  exact HZ g2 _ (by omega) (by omega)
 refine holds_float (fl:=19) (t:=31) (d:=4) (cs:=(fl1_v2)) (ls0:=fl1_n1) (ls1:=fl1_n2) (f:=1) 19 _ _ (by kernel_rfl) (by kernel_rfl) (by kernel_rfl) (by kernel_rfl) (by decide) (by kernel_rfl) (by kernel_rfl) (by kernel_rfl) (fl1_q2 x p q d w W2) ⟨(fun wx hm=>pick12 _ _ _ hp wx (by omega) (by omega) hx.hfr),⟨by omega,by omega⟩,(fun wx hm=>pick12 _ _ _ hq wx (by omega) (by omega) hx.hdst),⟨by omega,by omega⟩,(fun wx hm=>pick12 _ _ _ hd wx (by omega) (by omega) hx.hid),in64 (by omega),trivial⟩ H1 ?_
 intro y2 hy2
 replace hy2:W2.heap.size ≤ y2:=hy2
 refine holds_tail panicOk_body _ _ (fl1_t4 x p q d w y2) trivial ?_
 refine holds_done (by kernel_rfl) ?_
 exact HZ _ _ (by omega) (by omega)
theorem fitL_any (x:Raw12) (hx:Raw12Ok x) (w:World):Calls Try.prog 16 #[.agg #[.int .i64 x.fr,.int .i64 x.dst,.int .i64 x.id,.int .i64 x.st,.int .i64 x.ep,.int .i64 x.ou,.bool x.ans,.int .i64 x.ask.kind,.int .i64 x.ask.stripe,.int .i64 x.ask.epoch,.int .i64 x.ask.seq,.int .i64 x.ask.mask,.int .i64 x.ask.node,.int .i64 x.ask.oe,.int .i64 x.ask.os,.string x.ask.block,.int .i64 x.rc.flags,.int .i64 x.rc.fence,.int .i64 x.rc.epoch,.int .i64 x.rc.seq,.int .i64 x.rc.ie,.int .i64 x.rc.is,.int .i64 x.rc.mask,.string x.rc.block,.string x.rc.staged]] w (RetK (.agg (fitL x).cells.toArray) w):=by
 cases ha:x.ans with
 | true=>
  have h:=fitL_1 x _ _ _ _ _ _ _ hx rfl rfl rfl rfl rfl rfl rfl w
  have e:fitL x = ⟨partyAt (pickZ x.fr 9),partyAt (pickZ x.dst 9),1 + pickZ x.id 1099511627776,true,zeroQ,⟨1 + pickZ x.st 7,pickZ x.ep 16777216,pickZ x.ou 7 - 1,fitR x.rc⟩⟩:=by unfold fitL; rw [ha]; rfl
  rw [e]
  exact h
 | false=>
  have h:=fitL_0 x _ _ _ _ hx rfl rfl rfl rfl w
  have e:fitL x = ⟨partyAt (pickZ x.fr 9),partyAt (pickZ x.dst 9),1 + pickZ x.id 1099511627776,false,fitF x.ask,zeroS⟩:=by unfold fitL; rw [ha]; rfl
  rw [e]
  exact h
end Go.Proofs.Ytkffgdfbdmgncaa
