import Derived.Test.YtkffgdfbdmgncaaMsg12
import Derived.Test.YtkffgdfbdmgncaaFrame12
import Derived.Test.YtkffgdfbdmgncaaUnpack8
import Derived.Test.YtkffgdfbdmgncaaEngJ
namespace Go.Proofs.Ytkffgdfbdmgncaa
open Go.RowKit
def recZ (r:RecM):Bool:=((r.used == false) && (((r.fence:Int) == 0) && ((((r.de:Int) == 0) && (((r.ds:Int) == 0) && true)) && (((r.block:ByteArray) == ⟨#[]⟩) && ((r.op == false) && ((((r.ie:Int) == 0) && (((r.is:Int) == 0) && true)) && (((r.mask:Int) == 0) && (((r.staged:ByteArray) == ⟨#[]⟩) && true))))))))
def recT (r:RecM):ByteArray:=bif recZ r then noText else packS 0 r
def fldsM (l:LetM):List FldM:=numFs 1 (headN l) ++ (bif l.ans then numFs 32 (sayN l.say) ++ [⟨35,recT l.say.rc⟩] else numFs 16 (askN l.ask) ++ [⟨24,l.ask.block⟩])
def layT (l:List FldM):ByteArray:=bytesI (layI l)
def putT (l:LetM):ByteArray:=bif rightL l then frameT (layT (fldsM l)) else noText
def putE (l:LetM):Int:=bif rightL l then 0 else 120
theorem wi_iff {a b c:Int}:wi a b c = true ↔ b ≤ a ∧ a ≤ c:=by simp [wi]
theorem and_iff {a b:Bool}:(a && b) = true ↔ a = true ∧ b = true:=by simp
structure AskBd (q:AskM):Prop where
 kind:1 ≤ q.kind ∧ q.kind ≤ 10
 stripe:0 ≤ q.stripe ∧ q.stripe ≤ 7
 epoch:0 ≤ q.epoch ∧ q.epoch ≤ 16777215
 seq:0 ≤ q.seq ∧ q.seq ≤ 16777215
 mask:0 ≤ q.mask ∧ q.mask ≤ 63
 node:0 ≤ q.node ∧ q.node ≤ 5
 oe:0 ≤ q.oe ∧ q.oe ≤ 16777215
 os:0 ≤ q.os ∧ q.os ≤ 16777215
 block:q.block.size ≤ 16
theorem beqZ {a:Int}:((a:Int) == 0) = true ↔ a = 0:=beq_iff_eq
theorem beqE {s:ByteArray}:((s:ByteArray) == ⟨#[]⟩) = true ↔ s.size = 0:=by
 rw [beq_toListBytes,empty_text,decide_eq_true_eq]
theorem beq16 {s:ByteArray}:((s.size:Int) == 16) = true ↔ s.size = 16:=by
 rw [beq_iff_eq]
 omega
theorem askBd {q:AskM} (h:rightA q = true):AskBd q:=by
 have hs:wi q.stripe 0 7 = true:=by
  cases hw:wi q.stripe 0 7 with
  | true=>rfl
  | false=>unfold rightA at h; rw [hw] at h; cases h
 have hs2:=wi_iff.1 hs
 by_cases h0:q.kind < 1 ∨ 10 < q.kind
 ·unfold rightA at h
  rw [hs,beq_eq_false_iff_ne.2 (show (q.kind:Int) ≠ 1 by omega),beq_eq_false_iff_ne.2 (show (q.kind:Int) ≠ 2 by omega),beq_eq_false_iff_ne.2 (show (q.kind:Int) ≠ 3 by omega),beq_eq_false_iff_ne.2 (show (q.kind:Int) ≠ 4 by omega),beq_eq_false_iff_ne.2 (show (q.kind:Int) ≠ 5 by omega),beq_eq_false_iff_ne.2 (show (q.kind:Int) ≠ 6 by omega),beq_eq_false_iff_ne.2 (show (q.kind:Int) ≠ 7 by omega),beq_eq_false_iff_ne.2 (show (q.kind:Int) ≠ 8 by omega),beq_eq_false_iff_ne.2 (show (q.kind:Int) ≠ 9 by omega),beq_eq_false_iff_ne.2 (show (q.kind:Int) ≠ 10 by omega)] at h
  cases h
 ·have hk:q.kind = 1 ∨ q.kind = 2 ∨ q.kind = 3 ∨ q.kind = 4 ∨ q.kind = 5 ∨ q.kind = 6 ∨ q.kind = 7 ∨ q.kind = 8 ∨ q.kind = 9 ∨ q.kind = 10:=by omega
  rcases hk with hk | hk | hk | hk | hk | hk | hk | hk | hk | hk
  ·rw [rightA_1 hk hs] at h
   unfold askB1 at h
   simp only [and_iff,wi_iff,beqZ,beqE] at h
   constructor <;> omega
  ·rw [rightA_2 hk hs] at h
   unfold askB2 at h
   simp only [and_iff,wi_iff,beqZ,beqE] at h
   constructor <;> omega
  ·rw [rightA_3 hk hs] at h
   unfold askB3 at h
   simp only [and_iff,wi_iff,beqZ,beqE] at h
   constructor <;> omega
  ·rw [rightA_4 hk hs] at h
   unfold askB4 at h
   simp only [and_iff,wi_iff,beqZ,beq16] at h
   constructor <;> omega
  ·rw [rightA_5 hk hs] at h
   unfold askB5 at h
   simp only [and_iff,wi_iff,beqZ,beqE] at h
   constructor <;> omega
  ·rw [rightA_6 hk hs] at h
   unfold askB6 at h
   simp only [and_iff,wi_iff,beqZ,beqE,decide_eq_true_eq] at h
   constructor <;> omega
  ·rw [rightA_7 hk hs] at h
   unfold askB7 at h
   simp only [and_iff,wi_iff,beqZ,beq16] at h
   constructor <;> omega
  ·rw [rightA_8 hk hs] at h
   unfold askB8 at h
   simp only [and_iff,beqZ,beqE] at h
   constructor <;> omega
  ·rw [rightA_9 hk hs] at h
   unfold askB9 at h
   simp only [and_iff,wi_iff,beqZ,beqE] at h
   constructor <;> omega
  ·rw [rightA_10 hk hs] at h
   unfold askB10 at h
   simp only [and_iff,wi_iff,beqZ,beqE] at h
   constructor <;> omega
theorem numOk_of {n:Int} (h:-1 ≤ n ∧ n ≤ 1099511627776):numOk n = true:=(numOk_iff n).2 h
theorem party_iff {n:Int} (h:partyB n = true):0 ≤ n ∧ n ≤ 201:=by
 unfold partyB at h
 simp at h
 omega
structure LetBd (l:LetM):Prop where
 hfr:0 ≤ l.fr ∧ l.fr ≤ 201
 hto:0 ≤ l.dst ∧ l.dst ≤ 201
 hid:1 ≤ l.id ∧ l.id ≤ 1099511627776
 ask:l.ans = false → AskBd l.ask ∧ rightA l.ask = true ∧ sayZ l.say = true
 say:l.ans = true → saB l.say = true ∧ askZ l.ask = true
theorem letBd {l:LetM} (h:rightL l = true):LetBd l:=by
 unfold rightL at h
 simp only [and_iff,Bool.not_eq_true',decide_eq_false_iff_not] at h
 obtain ⟨h1,h2,h3,h4,h5⟩:=h
 refine ⟨party_iff h1,party_iff h2,by omega,fun e=>?_,fun e=>?_⟩
 ·rw [e] at h5
  simp only [cond_false,and_iff] at h5
  exact ⟨askBd h5.2,h5.2,h5.1⟩
 ·rw [e] at h5
  simp only [cond_true,and_iff] at h5
  exact ⟨h5.2,h5.1⟩
theorem saBd {s:SayR} (h:saB s = true):(1 ≤ s.st ∧ s.st ≤ 7) ∧ (0 ≤ s.ep ∧ s.ep ≤ 16777215) ∧ (-1 ≤ s.ou ∧ s.ou ≤ 5) ∧ RecOk s.rc:=by
 unfold saB at h
 simp only [and_iff,Bool.not_eq_true',decide_eq_false_iff_not,decide_eq_true_eq] at h
 obtain ⟨h1,h2,h3,h4,h5,h6,h7⟩:=h
 exact ⟨by omega,by omega,by omega,(okB_iff _).1 h7⟩
theorem headN_ok {l:LetM} (h:LetBd l):∀ x ∈ headN l,numOk x = true:=by
 obtain ⟨h1,h2,h3,_,_⟩:=h
 intro x hx
 simp only [headN,List.mem_cons,List.not_mem_nil,or_false] at hx
 rcases hx with rfl | rfl | rfl <;> exact numOk_of (by omega)
theorem askN_ok {q:AskM} (h:AskBd q):∀ x ∈ askN q,numOk x = true:=by
 obtain ⟨h1,h2,h3,h4,h5,h6,h7,h8,_⟩:=h
 intro x hx
 simp only [askN,List.mem_cons,List.not_mem_nil,or_false] at hx
 rcases hx with rfl | rfl | rfl | rfl | rfl | rfl | rfl | rfl <;> exact numOk_of (by omega)
theorem sayN_ok {s:SayR} (h:saB s = true):∀ x ∈ sayN s,numOk x = true:=by
 obtain ⟨h1,h2,h3,_⟩:=saBd h
 intro x hx
 simp only [sayN,List.mem_cons,List.not_mem_nil,or_false] at hx
 rcases hx with rfl | rfl | rfl <;> exact numOk_of (by omega)
theorem size_recT (r:RecM):(recT r).size ≤ 64:=by
 unfold recT
 cases recZ r
 ·exact Nat.le_of_eq (size_packS 0 r)
 ·exact Nat.zero_le _
theorem numFs_fld:∀ (l:List Int) (t:Int),1 ≤ t → t + l.length ≤ 256 → (∀ x ∈ l,numOk x = true) → (numFs t l).all fldB = true ∧ (layI (numFs t l)).length ≤ 9 * l.length
 | [],_,_,_,_=>⟨rfl,Nat.le_refl _⟩
 | x :: l,t,h1,h2,h=>by
  have hx:=(numOk_iff x).1 (h x (by simp))
  have hz:=size_num hx.2
  simp only [List.length_cons] at h2
  obtain ⟨h3,h4⟩:=numFs_fld l (t + 1) (by omega) (by omega) (fun y hy=>h y (by simp [hy]))
  refine ⟨?_,?_⟩
  ·simp only [numFs,List.all_cons,h3,Bool.and_true]
   exact (fldB_iff _).2 ⟨by omega,by show t ≤ 255; omega,by show (numT x).size ≤ 400; omega⟩
  ·have e:=len_layF ⟨t,numT x⟩
   simp only [numFs,layI,List.flatMap_cons,List.length_append,List.length_cons] at h4 ⊢
   rw [e]
   show 3 + (numT x).size + _ ≤ _
   omega
theorem layI_append (a b:List FldM):layI (a ++ b) = layI a ++ layI b:=by simp [layI]
theorem len_layT (l:List FldM):(layT l).size = (layI l).length:=size_bytesI _
theorem fldsM_ok {l:LetM} (h:rightL l = true):layOk (fldsM l) = true ∧ (fldsM l).length = (bif l.ans then 7 else 12) ∧ 21 ≤ (layI (fldsM l)).length ∧ (layI (fldsM l)).length ≤ 121:=by
 have hb:=letBd h
 obtain ⟨h1,h2⟩:=numFs_fld (headN l) 1 (by omega) (by simp [headN]) (headN_ok hb)
 cases ha:l.ans with
 | true=>
  have hs:=(hb.say ha).1
  obtain ⟨h3,h4⟩:=numFs_fld (sayN l.say) 32 (by omega) (by simp [sayN]) (sayN_ok hs)
  have hr:=size_recT l.say.rc
  have e:fldsM l = numFs 1 (headN l) ++ (numFs 32 (sayN l.say) ++ [⟨35,recT l.say.rc⟩]):=by unfold fldsM; rw [ha]; rfl
  have hl:(fldsM l).length = 7:=by rw [e]; rfl
  have eL:=len_layF ⟨35,recT l.say.rc⟩
  have hL:(layI (fldsM l)).length = (layI (numFs 1 (headN l))).length + (layI (numFs 32 (sayN l.say))).length + (3 + (recT l.say.rc).size):=by
   rw [e,layI_append,layI_append,List.length_append,List.length_append,← eL]
   simp [layI,Nat.add_assoc]
  refine ⟨?_,hl,?_,?_⟩
  ·unfold layOk
   rw [hl,e,List.all_append,List.all_append,h1,h3]
   simp only [List.all_cons,List.all_nil,Bool.and_true,Bool.true_and]
   rw [(fldB_iff _).2 ⟨show (1:Int) ≤ 35 by omega,show (35:Int) ≤ 255 by omega,show (recT l.say.rc).size ≤ 400 by omega⟩]
   rfl
  ·rw [hL]
   have e3:9 ≤ (layI (numFs 1 (headN l))).length:=by simp [headN,numFs,layI,len_layF]; omega
   have e4:9 ≤ (layI (numFs 32 (sayN l.say))).length:=by simp [sayN,numFs,layI,len_layF]; omega
   omega
  ·rw [hL]
   have h2':(layI (numFs 1 (headN l))).length ≤ 27:=h2
   have h4':(layI (numFs 32 (sayN l.say))).length ≤ 27:=h4
   omega
 | false=>
  have hq:=(hb.ask ha).1
  obtain ⟨h3,h4⟩:=numFs_fld (askN l.ask) 16 (by omega) (by simp [askN]) (askN_ok hq)
  have hr:=hq.block
  have e:fldsM l = numFs 1 (headN l) ++ (numFs 16 (askN l.ask) ++ [⟨24,l.ask.block⟩]):=by unfold fldsM; rw [ha]; rfl
  have hl:(fldsM l).length = 12:=by rw [e]; rfl
  have eL:=len_layF ⟨24,l.ask.block⟩
  have hL:(layI (fldsM l)).length = (layI (numFs 1 (headN l))).length + (layI (numFs 16 (askN l.ask))).length + (3 + l.ask.block.size):=by
   rw [e,layI_append,layI_append,List.length_append,List.length_append,← eL]
   simp [layI,Nat.add_assoc]
  refine ⟨?_,hl,?_,?_⟩
  ·unfold layOk
   rw [hl,e,List.all_append,List.all_append,h1,h3]
   simp only [List.all_cons,List.all_nil,Bool.and_true,Bool.true_and]
   rw [(fldB_iff _).2 ⟨show (1:Int) ≤ 24 by omega,show (24:Int) ≤ 255 by omega,show l.ask.block.size ≤ 400 by omega⟩]
   rfl
  ·rw [hL]
   have e3:9 ≤ (layI (numFs 1 (headN l))).length:=by simp [headN,numFs,layI,len_layF]; omega
   have e4:9 ≤ (layI (numFs 16 (askN l.ask))).length:=by simp [askN,numFs,layI,len_layF]; omega
   omega
  ·rw [hL]
   have h2':(layI (numFs 1 (headN l))).length ≤ 27:=h2
   have h4':(layI (numFs 16 (askN l.ask))).length ≤ 72:=h4
   omega
theorem fldsM_size {l:LetM} (h:rightL l = true):∀ x ∈ fldsM l,x.text.size ≤ 9223372036854775807:=by
 intro x hx
 have h1:=(fldsM_ok h).1
 simp only [layOk,Bool.and_eq_true,List.all_eq_true] at h1
 have h2:=(fldB_iff x).1 (h1.2 x hx)
 omega
def fof_v1 (l:LetM):List Value:=[i6 l.fr,i6 l.dst,i6 l.id,.bool l.ans,i6 l.ask.kind,i6 l.ask.stripe,i6 l.ask.epoch,i6 l.ask.seq,i6 l.ask.mask,i6 l.ask.node,i6 l.ask.oe,i6 l.ask.os,sT l.ask.block,i6 l.say.st,i6 l.say.ep,i6 l.say.ou,.bool l.say.rc.used,i6 l.say.rc.fence,i6 l.say.rc.de,i6 l.say.rc.ds,sT l.say.rc.block,.bool l.say.rc.op,i6 l.say.rc.ie,i6 l.say.rc.is,i6 l.say.rc.mask,sT l.say.rc.staged]
def fof_v2 (l:LetM):List Value:=[.bool l.say.rc.used,i6 l.say.rc.fence,i6 l.say.rc.de,i6 l.say.rc.ds,sT l.say.rc.block,.bool l.say.rc.op,i6 l.say.rc.ie,i6 l.say.rc.is,i6 l.say.rc.mask,sT l.say.rc.staged]
def fof_v3 (l:LetM):List Value:=[i6 l.ask.kind,i6 l.ask.stripe,i6 l.ask.epoch,i6 l.ask.seq,i6 l.ask.mask,i6 l.ask.node,i6 l.ask.oe,i6 l.ask.os,sT l.ask.block]
def fof_n1:List Nat:=[1,1,1,1,1,1,1,1,1]
set_option maxRecDepth 100000 in
set_option maxHeartbeats 4000000 in
theorem fieldsOf_any (l:LetM) (h:rightL l = true) (w:World) :
  Calls Try.prog 19 #[.agg #[.int .i64 l.fr,.int .i64 l.dst,.int .i64 l.id,.bool l.ans,.int .i64 l.ask.kind,.int .i64 l.ask.stripe,.int .i64 l.ask.epoch,.int .i64 l.ask.seq,.int .i64 l.ask.mask,.int .i64 l.ask.node,.int .i64 l.ask.oe,.int .i64 l.ask.os,.string l.ask.block,.int .i64 l.say.st,.int .i64 l.say.ep,.int .i64 l.say.ou,.bool l.say.rc.used,.int .i64 l.say.rc.fence,.int .i64 l.say.rc.de,.int .i64 l.say.rc.ds,.string l.say.rc.block,.bool l.say.rc.op,.int .i64 l.say.rc.ie,.int .i64 l.say.rc.is,.int .i64 l.say.rc.mask,.string l.say.rc.staged]] w (fun e w'=>∃ A cp,e = .returned (.tuple #[.slice A (fldsM l).length cp,.bool true]) ∧ OwnR w' w.heap.size 60 2 A (fldsM l).length cp (fldV (fldsM l)) ∧ Kept (fun _=>False) w w'):=by
 refine calls_of_holds (S:=(fun _=>False)) (l:=[.agg (List.toArray (fof_v1 l))]) (n:=96) Try.func19 (body_of (by kernel_rfl)) rfl (by simp) (MemOk.none w _) ?_
 have hb:=letBd h
 refine hgE 18 [oh0,oh0,oh0,oh0,(oA 0 0 1),oh0,(oA 0 1 1),oh0,(oA 0 2 1),oh0] [1,2,3,17] [] [(w.heap.size,0,1),(w.heap.size,1,1),(w.heap.size,2,1)] [.ops [1,0] [7,8,9,10,11,12],.code [1,1]] ⟨[(1,(pt w.heap.size 0)),(2,.slice none 0 0),(3,.bool false),(17,.slice (some ⟨w.heap.size + 1,0,none⟩) 3 3)],[⟨w.heap.size,31,true,(fof_v1 l)⟩,⟨w.heap.size + 1,3,true,[i6 l.fr,i6 l.dst,i6 l.id]⟩],[],w.heap.size + 2⟩ ?_
 refine holds_callV (w:=w) (S':=(fun _=>False)) (Y:=Option Addr × Nat) (fun yq=>.tuple #[.slice yq.1 3 yq.2,.bool true]) (fun yq=>[⟨w.heap.size,31,true,(fof_v1 l)⟩]) (fun yq W_=>OwnR W_ w.heap.size 60 2 yq.1 3 yq.2 (fldV (numFs 1 (headN l)))) (fun yq=>[(18,.tuple #[.slice yq.1 3 yq.2,.bool true]),(1,(pt w.heap.size 0)),(2,.slice none 0 0),(3,.bool false),(17,.slice (some ⟨w.heap.size + 1,0,none⟩) 3 3)]) (show _ = some (42,[.slice none 0 0,i6 1,.slice (some ⟨w.heap.size + 1,0,none⟩) 3 3],some 18,[]) by kernel_rfl) tI (fun _=>rfl) (fun wx hm=>?_) (fun yq W41 hX41 hm41=>?_)
 ·have hO_:=(OwnR.nil wx w.heap.size 60 2)
  refine (numbers_any none 0 0 w.heap.size [] 1 (w.heap.size + 1) (headN l) 3 rfl (by omega) (by omega) (headN_ok hb) wx hm.kept.size hO_ (hm.at_ 1 rfl)).mono fun e w' ⟨A',cp',h1,h2,h3,h4⟩=>?_
  exact ⟨(A',cp'),h1,h2,(hm.sub (bk':=[⟨w.heap.size,31,true,(fof_v1 l)⟩]) (by simp)).offA (fun _ h=>h) h4 (fun x hx=>.inr (hO_.own x hx).1) (by intro b hb; simp at hb; subst hb; exact hO_.apart hm (List.mem_of_getElem? (i:=0) rfl) (by simp))⟩
 obtain ⟨A41,c41⟩:=yq
 replace hX41:OwnR W41 w.heap.size 60 2 A41 3 c41 (fldV (numFs 1 (headN l))):=hX41
 refine hgE 24 [oh0,oh0,oh0,oh0,oh0,oh0,oh0,oh0,oh0,(oA 0 3 1),oh0] [1,2,3,4,5,25] [fF] [(w.heap.size,3,1)] [.code [1,1,1,0,1],.code [1,1,1,1]] ⟨[(1,(pt w.heap.size 0)),(2,.slice none 0 0),(3,.bool false),(4,.slice A41 3 c41),(5,.bool true),(25,.bool (!l.ans))],[⟨w.heap.size,31,true,(fof_v1 l)⟩],[],W41.heap.size⟩ ?_
 rcases Bool.eq_false_or_eq_true l.ans with ha | ha
 ·skip
  refine hgE 18 [oh0,oh0,oh0,oh0,(oA 0 13 1),oh0,oh0,(oA 0 14 1),oh0,oh0,(oA 0 15 1),oh0] [1,2,3,4,5,60,70] [eD (nF ha)] [(w.heap.size,13,1),(w.heap.size,14,1),(w.heap.size,15,1)] [.ops [1,1,1,1,0] [11,12,13,14,15,16],.code [1,1,1,1,1]] ⟨[(1,(pt w.heap.size 0)),(2,.slice none 0 0),(3,.bool false),(4,.slice A41 3 c41),(5,.bool true),(60,.slice A41 3 c41),(70,.slice (some ⟨W41.heap.size,0,none⟩) 3 3)],[⟨w.heap.size,31,true,(fof_v1 l)⟩,⟨W41.heap.size,3,true,[i6 l.say.st,i6 l.say.ep,i6 l.say.ou]⟩],[],W41.heap.size + 1⟩ ?_
  obtain ⟨hsa,_⟩:=hb.say ha
  have hre:=(saBd hsa).2.2.2
  refine holds_callV (w:=w) (S':=(fun _=>False)) (Y:=Option Addr × Nat) (fun yq=>.tuple #[.slice yq.1 (3 + 3) yq.2,.bool true]) (fun yq=>[⟨w.heap.size,31,true,(fof_v1 l)⟩]) (fun yq W_=>OwnR W_ w.heap.size 60 2 yq.1 (3 + 3) yq.2 (fldV (numFs 1 (headN l) ++ numFs 32 (sayN l.say)))) (fun yq=>[(71,.tuple #[.slice yq.1 (3 + 3) yq.2,.bool true]),(1,(pt w.heap.size 0)),(2,.slice none 0 0),(3,.bool false),(4,.slice A41 3 c41),(5,.bool true),(60,.slice A41 3 c41),(70,.slice (some ⟨W41.heap.size,0,none⟩) 3 3)]) (show _ = some (42,[.slice A41 3 c41,i6 32,.slice (some ⟨W41.heap.size,0,none⟩) 3 3],some 71,[]) by kernel_rfl) tI (fun _=>rfl) (fun wx hm=>?_) (fun yq W42 hX42 hm42=>?_)
  ·have hO_:=(hX41.kept hm.kept (hX41.calm hm41 (by simp)))
   refine (numbers_any A41 3 c41 w.heap.size (numFs 1 (headN l)) 32 W41.heap.size (sayN l.say) 3 rfl (by omega) (by omega) (sayN_ok hsa) wx (MemOk.bck hm41 hm).kept.size hO_ (hm.at_ 1 rfl)).mono fun e w' ⟨A',cp',h1,h2,h3,h4⟩=>?_
   exact ⟨(A',cp'),h1,h2,((MemOk.bck hm41 hm).sub (bk':=[⟨w.heap.size,31,true,(fof_v1 l)⟩]) (by simp)).offA (fun _ h=>h) h4 (fun x hx=>.inr (hO_.own x hx).1) (by intro b hb; simp at hb; subst hb; exact hO_.apart hm (List.mem_of_getElem? (i:=0) rfl) (by simp))⟩
  obtain ⟨A42,c42⟩:=yq
  replace hX42:OwnR W42 w.heap.size 60 2 A42 (3 + 3) c42 (fldV (numFs 1 (headN l) ++ numFs 32 (sayN l.say))):=hX42
  refine hgE 30 [oh0,oh0,oh0,oh0,oh0,oh0,oh0,oh0,oh0,oh0,oh0,(oA 0 16 10),oh0,oh2] [1,2,3,4,7,80] [fF,vV] [(w.heap.size,16,10)] [.code [1,1,1,1,1,1,1,0,1],.code [1,1,1,1,1,1,1,1]] ⟨[(1,(pt w.heap.size 0)),(2,.slice none 0 0),(3,.bool false),(4,.slice A42 (3 + 3) c42),(7,sT ⟨#[]⟩),(80,.bool (!((recZ l.say.rc))))],[⟨w.heap.size,31,true,(fof_v1 l)⟩],[],W42.heap.size⟩ ?_
  rcases Bool.eq_false_or_eq_true (recZ l.say.rc) with hz | hz
  ·skip
   refine hgE 11 [oh0,oh0,oh0,oh0,oh0] [2,3,91,94] [oE ((!((recZ l.say.rc))) = false) (by rw [show ((recZ l.say.rc)) = true from by exact hz]; rfl)] [] [.ops [1,1,1,1,1,1,1,1,0] [4,5,6],.code fof_n1] ⟨[(2,.slice none 0 0),(3,.bool false),(91,.slice A42 (3 + 3) c42),(94,.slice (some ⟨W42.heap.size,0,none⟩) 1 1)],[⟨w.heap.size,31,true,(fof_v1 l)⟩,⟨W42.heap.size,60,true,[i6 35,sT ⟨#[]⟩]⟩],[],W42.heap.size + 1⟩ ?_
   refine holds_opV (w:=w) (S':=(fun _=>False)) (Y:=Option Addr × Nat) (dst:=(some 95)) (x:=Builtin.append_ #[54,54] 54 #[.slice A42 (3 + 3) c42,.slice (some ⟨W42.heap.size,0,none⟩) 1 1]) (fun yq=>.slice yq.1 (3 + 3 + 1) yq.2) [] (fun yq W_=>OwnR W_ w.heap.size 60 2 yq.1 (3 + 3 + 1) yq.2 ((fldV (numFs 1 (headN l) ++ numFs 32 (sayN l.say))) ++ [.int .i64 35,.string ⟨#[]⟩])) (fun yq=>[(95,.slice yq.1 (3 + 3 + 1) yq.2),(2,.slice none 0 0),(3,.bool false),(91,.slice A42 (3 + 3) c42),(94,.slice (some ⟨W42.heap.size,0,none⟩) 1 1)]) (by kernel_rfl) (by kernel_rfl) (fun _=>rfl) (fun wx hm=>?_) (fun yq W43 hX43 hm43=>?_)
   ·have hO_:=(hX42.kept hm.kept (hX42.calm hm42 (by simp)))
    obtain ⟨A',cp',w',h1,h2,h3,_⟩:=run_appendR (P:=Try.prog) wx w.heap.size 54 54 60 (.agg #[.int .i64 0,.string ⟨#[]⟩]) 2 24 A42 (3 + 3) c42 (fldV (numFs 1 (headN l) ++ numFs 32 (sayN l.say))) ⟨W42.heap.size,0,none⟩ 1 1 [.int .i64 35,.string ⟨#[]⟩] (by kernel_rfl) (by kernel_rfl) (by kernel_rfl) (by decide) hO_ rfl (fun j x hj=>by rw [add_norm,Nat.zero_add]; exact (hm.at_ 1 rfl).at_ hj) (ones_all (by kernel_rfl)) (by omega) (by decide) (MemOk.bck hm42 hm).kept.size
    refine ⟨(A',cp'),w',h1,h2,((MemOk.bck hm42 hm).none_).offA (fun _ h=>h) h3 (fun x hx=>.inr (hO_.own x hx).1) (by intro b hb; simp at hb)⟩
   obtain ⟨A43,c43⟩:=yq
   replace hX43:OwnR W43 w.heap.size 60 2 A43 (3 + 3 + 1) c43 ((fldV (numFs 1 (headN l) ++ numFs 32 (sayN l.say))) ++ [.int .i64 35,.string ⟨#[]⟩]):=hX43
   refine hgE 6 [oh0,oh0] [2,3] [] [] [.code fof_n1] ⟨[(2,.slice A43 (3 + 3 + 1) c43),(3,.bool true)],[],[],W43.heap.size⟩ ?_
   refine hrt [] [.slice A43 (3 + 3 + 1) c43,.bool true] [] ?_
   intro wx hm
   have e:fldsM l = (numFs 1 (headN l) ++ numFs 32 (sayN l.say)) ++ [⟨35,noText⟩]:=by unfold fldsM recT; rw [ha,hz,List.append_assoc]; rfl
   rw [e,fldV_snoc]
   exact ⟨A43,c43,rfl,(hX43.kept hm.kept (hX43.calm hm43 (by simp))),(MemOk.bck hm43 hm).kept⟩
  ·skip
   refine hgE 9 [oh1,oh0,oh0,(oA 0 16 10)] [2,3,4,7,84] [oE ((!((recZ l.say.rc))) = true) (by rw [show ((recZ l.say.rc)) = false from by exact hz]; rfl)] [(w.heap.size,16,10)] [.ops [1,1,1,1,1,1,1,0,1,0,0] [3,4,5,6,7,8],.code [1,1,1,1,1,1,1,0,1,0,1],.code [1,1,1,1,1,1,1,1]] ⟨[(2,.slice none 0 0),(3,.bool false),(4,.slice A42 (3 + 3) c42),(7,sT ⟨#[]⟩),(84,.agg (List.toArray (fof_v2 l)))],[⟨w.heap.size,31,true,(fof_v1 l)⟩],[],W42.heap.size⟩ ?_
   refine hcp (.tuple #[sT (packS 0 l.say.rc),i6 0]) 43 [i6 0,.agg (List.toArray (fof_v2 l))] (some 85) [] tI rfl (fun wx hm=>by have h:=pack_cells 0 l.say.rc rfl wx; rw [packT_ok (by omega) hre,packE_ok (by omega) hre] at h; exact h) fun z12 hz12=>?_
   replace hz12:W42.heap.size ≤ z12:=hz12
   refine hgE 27 [oh0,oh0,oh0,oh0,oh0,oh0,oh0,oh0,oh0,oh0,oh0,oh0,oh0,oh0] [2,3,91,94] [fF] [] [.ops [1,1,1,1,1,1,1,1,0] [4,5,6],.code fof_n1] ⟨[(2,.slice none 0 0),(3,.bool false),(91,.slice A42 (3 + 3) c42),(94,.slice (some ⟨z12,0,none⟩) 1 1)],[⟨w.heap.size,31,true,(fof_v1 l)⟩,⟨z12,60,true,[i6 35,sT (packS 0 l.say.rc)]⟩],[],z12 + 1⟩ ?_
   refine holds_opV (w:=w) (S':=(fun _=>False)) (Y:=Option Addr × Nat) (dst:=(some 95)) (x:=Builtin.append_ #[54,54] 54 #[.slice A42 (3 + 3) c42,.slice (some ⟨z12,0,none⟩) 1 1]) (fun yq=>.slice yq.1 (3 + 3 + 1) yq.2) [] (fun yq W_=>OwnR W_ w.heap.size 60 2 yq.1 (3 + 3 + 1) yq.2 ((fldV (numFs 1 (headN l) ++ numFs 32 (sayN l.say))) ++ [.int .i64 35,.string (packS 0 l.say.rc)])) (fun yq=>[(95,.slice yq.1 (3 + 3 + 1) yq.2),(2,.slice none 0 0),(3,.bool false),(91,.slice A42 (3 + 3) c42),(94,.slice (some ⟨z12,0,none⟩) 1 1)]) (by kernel_rfl) (by kernel_rfl) (fun _=>rfl) (fun wx hm=>?_) (fun yq W43 hX43 hm43=>?_)
   ·have hO_:=(hX42.kept hm.kept (hX42.calm hm42 (by simp)))
    obtain ⟨A',cp',w',h1,h2,h3,_⟩:=run_appendR (P:=Try.prog) wx w.heap.size 54 54 60 (.agg #[.int .i64 0,.string ⟨#[]⟩]) 2 24 A42 (3 + 3) c42 (fldV (numFs 1 (headN l) ++ numFs 32 (sayN l.say))) ⟨z12,0,none⟩ 1 1 [.int .i64 35,.string (packS 0 l.say.rc)] (by kernel_rfl) (by kernel_rfl) (by kernel_rfl) (by decide) hO_ rfl (fun j x hj=>by rw [add_norm,Nat.zero_add]; exact (hm.at_ 1 rfl).at_ hj) (ones_all (by kernel_rfl)) (by omega) (by decide) (MemOk.bck hm42 hm).kept.size
    refine ⟨(A',cp'),w',h1,h2,((MemOk.bck hm42 hm).none_).offA (fun _ h=>h) h3 (fun x hx=>.inr (hO_.own x hx).1) (by intro b hb; simp at hb)⟩
   obtain ⟨A43,c43⟩:=yq
   replace hX43:OwnR W43 w.heap.size 60 2 A43 (3 + 3 + 1) c43 ((fldV (numFs 1 (headN l) ++ numFs 32 (sayN l.say))) ++ [.int .i64 35,.string (packS 0 l.say.rc)]):=hX43
   refine hgE 6 [oh0,oh0] [2,3] [] [] [.code fof_n1] ⟨[(2,.slice A43 (3 + 3 + 1) c43),(3,.bool true)],[],[],W43.heap.size⟩ ?_
   refine hrt [] [.slice A43 (3 + 3 + 1) c43,.bool true] [] ?_
   intro wx hm
   have e:fldsM l = (numFs 1 (headN l) ++ numFs 32 (sayN l.say)) ++ [⟨35,packS 0 l.say.rc⟩]:=by unfold fldsM recT; rw [ha,hz,List.append_assoc]; rfl
   rw [e,fldV_snoc]
   exact ⟨A43,c43,rfl,(hX43.kept hm.kept (hX43.calm hm43 (by simp))),(MemOk.bck hm43 hm).kept⟩
 ·skip
  refine hgE 33 [oh1,oh0,(oA 0 4 9),oh0,(oA 1 0 9),oh0,oh0,(oA 1 0 1),oh0,(oA 1 1 1),oh0,(oA 1 2 1),oh0,(oA 1 3 1),oh0,(oA 1 4 1),oh0,(oA 1 5 1),oh0,oh0,(oA 1 6 1),oh0,oh0,(oA 1 7 1),oh0] [1,2,3,4,5,6,29,48] [eD (nT ha)] [(w.heap.size,4,9),(W41.heap.size,0,9),(W41.heap.size,0,1),(W41.heap.size,1,1),(W41.heap.size,2,1),(W41.heap.size,3,1),(W41.heap.size,4,1),(W41.heap.size,5,1),(W41.heap.size,6,1),(W41.heap.size,7,1)] [.ops [1,1,1,0,1,0,1,0] [20,21,22,23,24,25],.code [1,1,1,0,1,0,1,1],.code [1,1,1,1]] ⟨[(1,(pt w.heap.size 0)),(2,.slice none 0 0),(3,.bool false),(4,.slice A41 3 c41),(5,.bool true),(6,(pt W41.heap.size 0)),(29,.slice A41 3 c41),(48,.slice (some ⟨W41.heap.size + 1,0,none⟩) 8 8)],[⟨w.heap.size,31,true,(fof_v1 l)⟩,⟨W41.heap.size,25,true,(fof_v3 l)⟩,⟨W41.heap.size + 1,3,true,[i6 l.ask.kind,i6 l.ask.stripe,i6 l.ask.epoch,i6 l.ask.seq,i6 l.ask.mask,i6 l.ask.node,i6 l.ask.oe,i6 l.ask.os]⟩],[],W41.heap.size + 2⟩ ?_
  have hq:=(hb.ask ha).1
  refine holds_callV (w:=w) (S':=(fun _=>False)) (Y:=Option Addr × Nat) (fun yq=>.tuple #[.slice yq.1 (3 + 8) yq.2,.bool true]) (fun yq=>[⟨w.heap.size,31,true,(fof_v1 l)⟩,⟨W41.heap.size,25,true,(fof_v3 l)⟩]) (fun yq W_=>OwnR W_ w.heap.size 60 2 yq.1 (3 + 8) yq.2 (fldV (numFs 1 (headN l) ++ numFs 16 (askN l.ask)))) (fun yq=>[(49,.tuple #[.slice yq.1 (3 + 8) yq.2,.bool true]),(1,(pt w.heap.size 0)),(2,.slice none 0 0),(3,.bool false),(4,.slice A41 3 c41),(5,.bool true),(6,(pt W41.heap.size 0)),(29,.slice A41 3 c41),(48,.slice (some ⟨W41.heap.size + 1,0,none⟩) 8 8)]) (show _ = some (42,[.slice A41 3 c41,i6 16,.slice (some ⟨W41.heap.size + 1,0,none⟩) 8 8],some 49,[]) by kernel_rfl) tI (fun _=>rfl) (fun wx hm=>?_) (fun yq W42 hX42 hm42=>?_)
  ·have hO_:=(hX41.kept hm.kept (hX41.calm hm41 (by simp)))
   refine (numbers_any A41 3 c41 w.heap.size (numFs 1 (headN l)) 16 (W41.heap.size + 1) (askN l.ask) 8 rfl (by omega) (by omega) (askN_ok hq) wx (MemOk.bck hm41 hm).kept.size hO_ (hm.at_ 2 rfl)).mono fun e w' ⟨A',cp',h1,h2,h3,h4⟩=>?_
   exact ⟨(A',cp'),h1,h2,((MemOk.bck hm41 hm).sub (bk':=[⟨w.heap.size,31,true,(fof_v1 l)⟩,⟨W41.heap.size,25,true,(fof_v3 l)⟩]) (by simp)).offA (fun _ h=>h) h4 (fun x hx=>.inr (hO_.own x hx).1) (by intro b hb; simp at hb; rcases hb with rfl | rfl <;> first | exact hO_.apart hm (List.mem_of_getElem? (i:=0) rfl) (by simp) | exact hO_.apart hm (List.mem_of_getElem? (i:=1) rfl) (by simp))⟩
  obtain ⟨A42,c42⟩:=yq
  replace hX42:OwnR W42 w.heap.size 60 2 A42 (3 + 8) c42 (fldV (numFs 1 (headN l) ++ numFs 16 (askN l.ask))):=hX42
  refine hgE 16 [oh0,oh0,oh0,oh0,oh0,oh0,oh0,(oA 1 8 1),oh0,oh0] [1,2,3,4,5,52,56] [] [(W41.heap.size,8,1)] [.ops [1,1,1,0,1,0,1,1,0] [5,6,7,8],.code [1,1,1,0,1,0,1,1,1],.code [1,1,1,1]] ⟨[(1,(pt w.heap.size 0)),(2,.slice none 0 0),(3,.bool false),(4,.slice A42 (3 + 8) c42),(5,.bool true),(52,.slice A42 (3 + 8) c42),(56,.slice (some ⟨W42.heap.size,0,none⟩) 1 1)],[⟨w.heap.size,31,true,(fof_v1 l)⟩,⟨W41.heap.size,25,true,(fof_v3 l)⟩,⟨W42.heap.size,60,true,[i6 24,sT l.ask.block]⟩],[],W42.heap.size + 1⟩ ?_
  refine holds_opV (w:=w) (S':=(fun _=>False)) (Y:=Option Addr × Nat) (dst:=(some 57)) (x:=Builtin.append_ #[54,54] 54 #[.slice A42 (3 + 8) c42,.slice (some ⟨W42.heap.size,0,none⟩) 1 1]) (fun yq=>.slice yq.1 (3 + 8 + 1) yq.2) [] (fun yq W_=>OwnR W_ w.heap.size 60 2 yq.1 (3 + 8 + 1) yq.2 ((fldV (numFs 1 (headN l) ++ numFs 16 (askN l.ask))) ++ [.int .i64 24,.string l.ask.block])) (fun yq=>[(57,.slice yq.1 (3 + 8 + 1) yq.2),(1,(pt w.heap.size 0)),(2,.slice none 0 0),(3,.bool false),(4,.slice A42 (3 + 8) c42),(5,.bool true),(52,.slice A42 (3 + 8) c42),(56,.slice (some ⟨W42.heap.size,0,none⟩) 1 1)]) (by kernel_rfl) (by kernel_rfl) (fun _=>rfl) (fun wx hm=>?_) (fun yq W43 hX43 hm43=>?_)
  ·have hO_:=(hX42.kept hm.kept (hX42.calm hm42 (by simp)))
   obtain ⟨A',cp',w',h1,h2,h3,_⟩:=run_appendR (P:=Try.prog) wx w.heap.size 54 54 60 (.agg #[.int .i64 0,.string ⟨#[]⟩]) 2 24 A42 (3 + 8) c42 (fldV (numFs 1 (headN l) ++ numFs 16 (askN l.ask))) ⟨W42.heap.size,0,none⟩ 1 1 [.int .i64 24,.string l.ask.block] (by kernel_rfl) (by kernel_rfl) (by kernel_rfl) (by decide) hO_ rfl (fun j x hj=>by rw [add_norm,Nat.zero_add]; exact (hm.at_ 2 rfl).at_ hj) (ones_all (by kernel_rfl)) (by omega) (by decide) (MemOk.bck hm42 hm).kept.size
   refine ⟨(A',cp'),w',h1,h2,((MemOk.bck hm42 hm).none_).offA (fun _ h=>h) h3 (fun x hx=>.inr (hO_.own x hx).1) (by intro b hb; simp at hb)⟩
  obtain ⟨A43,c43⟩:=yq
  replace hX43:OwnR W43 w.heap.size 60 2 A43 (3 + 8 + 1) c43 ((fldV (numFs 1 (headN l) ++ numFs 16 (askN l.ask))) ++ [.int .i64 24,.string l.ask.block]):=hX43
  refine hgE 7 [oh0,oh0,oh0] [1,2,3,4,5] [] [] [.code [1,1,1,0,1,0,1,1,1],.code [1,1,1,1]] ⟨[(1,(pt w.heap.size 0)),(2,.slice A43 (3 + 8 + 1) c43),(3,.bool true),(4,.slice A42 (3 + 8) c42),(5,.bool true)],[],[],W43.heap.size⟩ ?_
  refine hrt [] [.slice A43 (3 + 8 + 1) c43,.bool true] [] ?_
  intro wx hm
  have e:fldsM l = (numFs 1 (headN l) ++ numFs 16 (askN l.ask)) ++ [⟨24,l.ask.block⟩]:=by unfold fldsM; rw [ha,List.append_assoc]; rfl
  rw [e,fldV_snoc]
  exact ⟨A43,c43,rfl,(hX43.kept hm.kept (hX43.calm hm43 (by simp))),(MemOk.bck hm43 hm).kept⟩
def put_v1 (l:LetM):List Value:=(fof_v1 l)
set_option maxRecDepth 100000 in
set_option maxHeartbeats 4000000 in
theorem put_any (l:LetM) (w:World) :
  Calls Try.prog 10 #[.agg #[.int .i64 l.fr,.int .i64 l.dst,.int .i64 l.id,.bool l.ans,.int .i64 l.ask.kind,.int .i64 l.ask.stripe,.int .i64 l.ask.epoch,.int .i64 l.ask.seq,.int .i64 l.ask.mask,.int .i64 l.ask.node,.int .i64 l.ask.oe,.int .i64 l.ask.os,.string l.ask.block,.int .i64 l.say.st,.int .i64 l.say.ep,.int .i64 l.say.ou,.bool l.say.rc.used,.int .i64 l.say.rc.fence,.int .i64 l.say.rc.de,.int .i64 l.say.rc.ds,.string l.say.rc.block,.bool l.say.rc.op,.int .i64 l.say.rc.ie,.int .i64 l.say.rc.is,.int .i64 l.say.rc.mask,.string l.say.rc.staged]] w (RetK (.tuple #[.string (putT l),.int .i64 (putE l)]) w):=by
 refine calls_of_holds (S:=(fun _=>False)) (l:=[.agg (List.toArray (put_v1 l))]) (n:=34) Try.func10 (body_of (by kernel_rfl)) rfl (by simp) (MemOk.none w _) ?_
 refine hgE 13 [oh0,oh0,oh0,(oA 0 0 26)] [1,2,3,9] [] [(w.heap.size,0,26)] [.ops [1,0,0] [1,2],.code [1,0,1],.code [1,1]] ⟨[(1,(pt w.heap.size 0)),(2,sT ⟨#[]⟩),(3,i6 0),(9,.agg (List.toArray (put_v1 l)))],[⟨w.heap.size,31,true,(put_v1 l)⟩],[],w.heap.size + 1⟩ ?_
 refine hcp (.bool (rightL l)) 14 [.agg (List.toArray (put_v1 l))] (some 10) [] tI rfl (fun wx hm=>msgRight_any l wx) fun z2 hz2=>?_
 replace hz2:w.heap.size + 1 ≤ z2:=hz2
 rcases Bool.eq_false_or_eq_true (rightL l) with h | h
 rotate_left
 ·skip
  refine hgE 11 [oh0,oh1,oh0,oh0] [1,2,3] [oE ((!(rightL l)) = true) (by rw [h]; rfl)] [] [.code [1,0,1,0,1],.code [1,1]] ⟨[(1,(pt w.heap.size 0)),(2,sT ⟨#[]⟩),(3,i6 120)],[⟨w.heap.size,31,true,(put_v1 l)⟩],[],z2⟩ ?_
  refine hrt [] [sT ⟨#[]⟩,i6 120] [] ?_
  intro wx hm
  exact ⟨by unfold putT putE; rw [h]; rfl,hm.kept⟩
 ·skip
  obtain ⟨hlo,hln,hl1,hl2⟩:=fldsM_ok h
  have hle:(fldsM l).length ≤ 12:=by rw [hln]; cases l.ans <;> decide
  refine hgE 10 [oh0,oh0,(oA 0 0 26)] [2,3,13] [oE ((!(rightL l)) = false) (by rw [h]; rfl)] [(w.heap.size,0,26)] [.ops [1,1,0] [1,2,3,4,5,6],.code [1,1,1]] ⟨[(2,sT ⟨#[]⟩),(3,i6 0),(13,.agg (List.toArray (put_v1 l)))],[⟨w.heap.size,31,true,(put_v1 l)⟩],[],z2⟩ ?_
  refine holds_callV (w:=w) (S':=(fun _=>False)) (Y:=Option Addr × Nat) (fun yq=>.tuple #[.slice yq.1 ((fldsM l).length) yq.2,.bool true]) (fun yq=>[]) (fun yq W_=>OwnR W_ w.heap.size 60 2 yq.1 (fldsM l).length yq.2 (fldV (fldsM l))) (fun yq=>[(14,.tuple #[.slice yq.1 ((fldsM l).length) yq.2,.bool true]),(2,sT ⟨#[]⟩),(3,i6 0),(13,.agg (List.toArray (put_v1 l)))]) (show _ = some (19,[.agg (List.toArray (put_v1 l))],some 14,[]) by kernel_rfl) tI (fun _=>rfl) (fun wx hm=>?_) (fun yq W2 hX2 hm2=>?_)
  ·refine (fieldsOf_any l h wx).mono fun e w' ⟨A',cp',h1,h2,h3⟩=>?_
   exact ⟨(A',cp'),h1,h2.below (hm.kept.size),(hm.none_).offA (fun _ h=>h) h3 (fun _ h=>h.elim) (fun b hb=>(by cases hb))⟩
  obtain ⟨A,cp⟩:=yq
  replace hX2:OwnR W2 w.heap.size 60 2 A (fldsM l).length cp (fldV (fldsM l)):=hX2
  refine hgE 20 [oh0,oh0,oh0,oh0,oh0,oh0,oh0,oh0,oh0] [2,3,20] [fF] [] [.ops [1,1,1,1,0] [1,2,3,4,5,6],.code [1,1,1,1,1]] ⟨[(2,sT ⟨#[]⟩),(3,i6 0),(20,.slice A ((fldsM l).length) cp)],[],[],W2.heap.size⟩ ?_
  refine hcp (.tuple #[sT (layT (fldsM l)),i6 0]) 20 [.slice A ((fldsM l).length) cp] (some 21) [] tI rfl (fun wx hm=>by have hl:=lay_any A (fldsM l).length cp w.heap.size (fldsM l) (fldsM_size h) (by omega) wx (hX2.kept hm.kept (fun x _ ⟨b,hb,_⟩=>by cases hb)); rw [hlo] at hl; exact hl) fun z8 hz8=>?_
  replace hz8:W2.heap.size ≤ z8:=hz8
  refine hgE 20 [oh0,oh0,oh0,oh0,oh0,oh0,oh0,oh0,oh0] [2,3,7,27] [fF] [] [.ops [1,1,1,1,1,1,0] [1,2,3,4,5,6],.code [1,1,1,1,1,1,1]] ⟨[(2,sT ⟨#[]⟩),(3,i6 0),(7,i6 0),(27,sT (layT (fldsM l)))],[],[],z8⟩ ?_
  refine hcp (.tuple #[sT (frameT (layT (fldsM l))),i6 0]) 21 [sT (layT (fldsM l))] (some 28) [] tI rfl (fun wx hm=>frameLay_ok _ (by rw [len_layT]; omega) wx) fun z10 hz10=>?_
  replace hz10:z8 ≤ z10:=hz10
  refine hgE 23 [oh0,oh0,oh0,oh0,oh0,oh0,oh0,oh0,oh0,oh0,oh0] [2,3] [fF] [] [.code [1,1,1,1,1,1,1,1,1]] ⟨[(2,sT (frameT (layT (fldsM l)))),(3,i6 0)],[],[],z10⟩ ?_
  refine hrt [] [sT (frameT (layT (fldsM l))),i6 0] [] ?_
  intro wx hm
  exact ⟨by unfold putT putE; rw [h]; rfl,(MemOk.bck hm2 hm).kept⟩
end Go.Proofs.Ytkffgdfbdmgncaa
