import Derived.Test.YtfiheghjhgnblaaEngT
import Derived.Test.YtfiheghjhgnblaaRaw8
import Derived.Test.YtfiheghjhgnblaaPickZ
namespace Go.Proofs.Ytfiheghjhgnblaa
open Go.RowKit
def Bef (a b c d:Int):Prop:=a < c ∨ (a = c ∧ b < d)
theorem bef_true {a b c d:Int} (h:Bef a b c d):beforeM a b c d = true:=by
 unfold beforeM
 rcases h with h | ⟨h,h2⟩
 ·rw [decide_eq_true h,Bool.true_or]
 ·rw [decide_eq_true h2,beq_iff_eq.2 h,Bool.and_true,Bool.or_true]
theorem bef_false {a b c d:Int} (h:¬ Bef a b c d):beforeM a b c d = false:=by
 unfold beforeM
 rw [decide_eq_false (fun h1=>h (.inl h1)),Bool.false_or]
 by_cases h2:a = c
 ·rw [decide_eq_false (fun h1=>h (.inr ⟨h2,h1⟩)),Bool.and_false]
 ·rw [beq_eq_false_iff_ne.2 h2,Bool.false_and]
theorem tag_true {a b c d:Int} (h:a = c ∧ b = d):tagEq a b c d = true:=by
 unfold tagEq
 rw [beq_iff_eq.2 h.1,beq_iff_eq.2 h.2]
 rfl
theorem tag_false {a b c d:Int} (h:¬ (a = c ∧ b = d)):tagEq a b c d = false:=by
 unfold tagEq
 by_cases h1:a = c
 ·rw [beq_eq_false_iff_ne.2 (fun h2=>h ⟨h1,h2⟩),Bool.false_and,Bool.and_false]
 ·rw [beq_eq_false_iff_ne.2 h1,Bool.false_and]
inductive Does (r:RecM) (q:AskM):RecM × SayR → Prop
 | bad (k:7 < q.kind):Does r q (r,⟨6,0,0,blankR 0⟩)
 | behind (k:q.kind = 1) (h:q.epoch < r.fence):Does r q (sayM r 2)
 | follow (k:q.kind = 1) (h:r.fence ≤ q.epoch):Does r q (followM r q)
 | stale (k:q.kind ≠ 1) (k7:q.kind ≤ 7) (h:q.epoch ≠ r.fence):Does r q (sayM r 2)
 | putS (k:q.kind = 7) (h:q.epoch = r.fence) (u:r.used = true) (t:r.de = q.epoch ∧ r.ds = q.seq):Does r q (sayM r 1)
 | putN (k:q.kind = 7) (h:q.epoch = r.fence) (u:r.used = true) (b:Bef r.de r.ds q.epoch q.seq):Does r q (sayM (newM r q) 1)
 | putO (k:q.kind = 7) (h:q.epoch = r.fence) (u:r.used = true) (t:¬ (r.de = q.epoch ∧ r.ds = q.seq)) (b:¬ Bef r.de r.ds q.epoch q.seq):Does r q (sayM r 4)
 | putB (k:q.kind = 7) (h:q.epoch = r.fence) (u:r.used = false):Does r q (sayM (newM r q) 1)
 | blank (k:q.kind ≠ 1) (k2:q.kind < 7) (h:q.epoch = r.fence) (u:r.used = false):Does r q (sayM r 5)
 | read (k:q.kind = 2) (h:q.epoch = r.fence) (u:r.used = true):Does r q (readM r)
 | prepS (k:q.kind = 4) (h:q.epoch = r.fence) (u:r.used = true) (t:r.de = q.epoch ∧ r.ds = q.seq):Does r q (sayM r 1)
 | prepO (k:q.kind = 4) (h:q.epoch = r.fence) (u:r.used = true) (t:¬ (r.de = q.epoch ∧ r.ds = q.seq)) (b:¬ Bef r.de r.ds q.epoch q.seq):Does r q (sayM r 4)
 | prepI (k:q.kind = 4) (h:q.epoch = r.fence) (u:r.used = true) (b:Bef r.de r.ds q.epoch q.seq) (o:r.op = true) (i:r.ie = q.epoch ∧ r.is = q.seq):Does r q (sayM r 1)
 | prepB (k:q.kind = 4) (h:q.epoch = r.fence) (u:r.used = true) (b:Bef r.de r.ds q.epoch q.seq) (o:r.op = true) (i:¬ (r.ie = q.epoch ∧ r.is = q.seq)):Does r q (sayM r 3)
 | prepN (k:q.kind = 4) (h:q.epoch = r.fence) (u:r.used = true) (b:Bef r.de r.ds q.epoch q.seq) (o:r.op = false):Does r q (sayM (openM r q) 1)
 | comI (k:q.kind = 5) (h:q.epoch = r.fence) (u:r.used = true) (o:r.op = true) (i:r.ie = q.epoch ∧ r.is = q.seq):Does r q (sayM (doneM r) 1)
 | comS (k:q.kind = 5) (h:q.epoch = r.fence) (u:r.used = true) (i:¬ (r.op = true ∧ r.ie = q.epoch ∧ r.is = q.seq)) (t:r.de = q.epoch ∧ r.ds = q.seq):Does r q (sayM r 1)
 | comO (k:q.kind = 5) (h:q.epoch = r.fence) (u:r.used = true) (i:¬ (r.op = true ∧ r.ie = q.epoch ∧ r.is = q.seq)) (t:¬ (r.de = q.epoch ∧ r.ds = q.seq)):Does r q (sayM r 4)
 | setD (k:q.kind = 6) (h:q.epoch = r.fence) (u:r.used = true) (o:r.op = true) (i:r.ie = q.oe ∧ r.is = q.os) (m:q.mask = 1):Does r q (sayM (doneM r) 1)
 | setC (k:q.kind = 6) (h:q.epoch = r.fence) (u:r.used = true) (o:r.op = true) (i:r.ie = q.oe ∧ r.is = q.os) (m:q.mask ≠ 1):Does r q (sayM (closedM r) 1)
 | setN (k:q.kind = 6) (h:q.epoch = r.fence) (u:r.used = true) (i:¬ (r.op = true ∧ r.ie = q.oe ∧ r.is = q.os)):Does r q (sayM r 1)
 | check (k:q.kind = 3) (h:q.epoch = r.fence) (u:r.used = true):Does r q (sayM r 1)
theorem apply_le {r:RecM} {q:AskM} (k:¬ 7 < q.kind):applyM r q = turnM r q:=by
 unfold applyM
 rw [decide_eq_false (show ¬ q.kind > 7 from k),cond_false]
theorem turn_k1 {r:RecM} {q:AskM} (k:q.kind = 1):turnM r q = fenceM r q:=by
 unfold turnM chosenF
 rw [beq_iff_eq.2 k,cond_true]
 rfl
theorem turn_stale {r:RecM} {q:AskM} (k:q.kind ≠ 1) (h:q.epoch ≠ r.fence):turnM r q = sayM r 2:=by
 unfold turnM chosenF
 rw [beq_eq_false_iff_ne.2 k,cond_false,bne_iff_ne.2 h,cond_true]
 rfl
theorem bne_same {a b:Int} (h:a = b):(a != b) = false:=by
 subst h
 exact bne_self_eq_false _
theorem turn_put {r:RecM} {q:AskM} (k:q.kind = 7) (h:q.epoch = r.fence):turnM r q = putM r q:=by
 unfold turnM chosenF
 rw [beq_eq_false_iff_ne.2 (show q.kind ≠ 1 by omega),cond_false,bne_same h,cond_false,beq_iff_eq.2 k,cond_true]
 rfl
theorem turn_blank {r:RecM} {q:AskM} (k:q.kind ≠ 1) (k7:q.kind ≠ 7) (h:q.epoch = r.fence) (u:r.used = false):turnM r q = sayM r 5:=by
 unfold turnM chosenF
 rw [beq_eq_false_iff_ne.2 k,cond_false,bne_same h,cond_false,beq_eq_false_iff_ne.2 k7,cond_false,u,cond_false]
 rfl
theorem turn_used {r:RecM} {q:AskM} (k:q.kind ≠ 1) (k7:q.kind ≠ 7) (h:q.epoch = r.fence) (u:r.used = true) :
  turnM r q = if q.kind = 2 then readM r else if q.kind = 4 then prepareM r q else if q.kind = 5 then commitM r q else if q.kind = 6 then settleM r q else sayM r 1:=by
 unfold turnM chosenF
 rw [beq_eq_false_iff_ne.2 k,cond_false,bne_same h,cond_false,beq_eq_false_iff_ne.2 k7,cond_false,u,cond_true]
 by_cases k2:q.kind = 2
 ·rw [beq_iff_eq.2 k2,cond_true,if_pos k2]
  rfl
 ·rw [beq_eq_false_iff_ne.2 k2,cond_false,if_neg k2]
  by_cases k4:q.kind = 4
  ·rw [beq_iff_eq.2 k4,cond_true,if_pos k4]
   rfl
  ·rw [beq_eq_false_iff_ne.2 k4,cond_false,if_neg k4]
   by_cases k5:q.kind = 5
   ·rw [beq_iff_eq.2 k5,cond_true,if_pos k5]
    rfl
   ·rw [beq_eq_false_iff_ne.2 k5,cond_false,if_neg k5]
    by_cases k6:q.kind = 6
    ·rw [beq_iff_eq.2 k6,cond_true,if_pos k6]
     rfl
    ·rw [beq_eq_false_iff_ne.2 k6,cond_false,if_neg k6]
     rfl
theorem does (r:RecM) (q:AskM) (hk:1 ≤ q.kind):Does r q (applyM r q):=by
 by_cases k8:7 < q.kind
 ·have e:applyM r q = (r,⟨6,0,0,blankR 0⟩):=by
   unfold applyM
   rw [decide_eq_true (show q.kind > 7 from k8),cond_true]
  rw [e]
  exact .bad k8
 rw [apply_le k8]
 by_cases k1:q.kind = 1
 ·rw [turn_k1 k1]
  unfold fenceM
  by_cases h:q.epoch < r.fence
  ·rw [decide_eq_true h,cond_true]
   exact .behind k1 h
  ·rw [decide_eq_false h,cond_false]
   exact .follow k1 (by omega)
 by_cases h:q.epoch = r.fence
 ·by_cases k7:q.kind = 7
  ·rw [turn_put k7 h]
   unfold putM
   cases u:r.used with
   | false=>
    rw [cond_false]
    exact .putB k7 h u
   | true=>
    rw [cond_true]
    by_cases t:r.de = q.epoch ∧ r.ds = q.seq
    ·rw [tag_true t,cond_true]
     exact .putS k7 h u t
    ·rw [tag_false t,cond_false]
     by_cases b:Bef r.de r.ds q.epoch q.seq
     ·rw [bef_true b,cond_true]
      exact .putN k7 h u b
     ·rw [bef_false b,cond_false]
      exact .putO k7 h u t b
  ·cases u:r.used with
   | false=>
    rw [turn_blank k1 k7 h u]
    exact .blank k1 (by omega) h u
   | true=>
    rw [turn_used k1 k7 h u]
    by_cases k2:q.kind = 2
    ·rw [if_pos k2]
     exact .read k2 h u
    rw [if_neg k2]
    by_cases k4:q.kind = 4
    ·rw [if_pos k4]
     unfold prepareM
     by_cases t:r.de = q.epoch ∧ r.ds = q.seq
     ·rw [tag_true t,cond_true]
      exact .prepS k4 h u t
     ·rw [tag_false t,cond_false]
      by_cases b:Bef r.de r.ds q.epoch q.seq
      ·rw [bef_true b,cond_true]
       cases o:r.op with
       | false=>
        rw [cond_false]
        exact .prepN k4 h u b o
       | true=>
        rw [cond_true]
        by_cases i:r.ie = q.epoch ∧ r.is = q.seq
        ·rw [tag_true i,cond_true]
         exact .prepI k4 h u b o i
        ·rw [tag_false i,cond_false]
         exact .prepB k4 h u b o i
      ·rw [bef_false b,cond_false]
       exact .prepO k4 h u t b
    rw [if_neg k4]
    by_cases k5:q.kind = 5
    ·rw [if_pos k5]
     unfold commitM
     have htail:¬ (r.op = true ∧ r.ie = q.epoch ∧ r.is = q.seq) → Does r q (bif tagEq r.de r.ds q.epoch q.seq then sayM r 1 else sayM r 4):=fun i=>by
      by_cases t:r.de = q.epoch ∧ r.ds = q.seq
      ·rw [tag_true t,cond_true]
       exact .comS k5 h u i t
      ·rw [tag_false t,cond_false]
       exact .comO k5 h u i t
     cases o:r.op with
     | false=>
      rw [cond_false]
      exact htail (fun i=>by rw [o] at i; cases i.1)
     | true=>
      rw [cond_true]
      by_cases i:r.ie = q.epoch ∧ r.is = q.seq
      ·rw [tag_true i,cond_true]
       exact .comI k5 h u o i
      ·rw [tag_false i,cond_false]
       exact htail (fun j=>i j.2)
    rw [if_neg k5]
    by_cases k6:q.kind = 6
    ·rw [if_pos k6]
     unfold settleM
     cases o:r.op with
     | false=>
      rw [cond_false]
      exact .setN k6 h u (fun i=>by rw [o] at i; cases i.1)
     | true=>
      rw [cond_true]
      by_cases i:r.ie = q.oe ∧ r.is = q.os
      ·rw [tag_true i,cond_true]
       by_cases m:q.mask = 1
       ·rw [beq_iff_eq.2 m,cond_true]
        exact .setD k6 h u o i m
       ·rw [beq_eq_false_iff_ne.2 m,cond_false]
        exact .setC k6 h u o i m
      ·rw [tag_false i,cond_false]
       exact .setN k6 h u (fun j=>i j.2)
    rw [if_neg k6]
    exact .check (by omega) h u
 ·rw [turn_stale k1 h]
  exact .stale k1 (by omega) h
theorem apply_ok {r:RecM} {q:AskM} (hr:RecOk r) (hq:AskOk q):RecOk (applyM r q).1:=by
 have hd:=does r q hq.kind.1
 have hop:r.op = true → r.used = true:=fun ho=>by
  cases hu:r.used with
  | true=>rfl
  | false=>
   have:=(hr.none hu).2.1
   rw [ho] at this
   cases this
 have hnew:q.kind = 7 → RecOk (newM r q):=fun k=>by
  have h1:=hq.epoch (by omega)
  have h2:=hq.seq (by omega)
  exact ⟨hr.fence,by simp only [newM]; omega,by simp only [newM]; omega,by simp only [newM]; omega,by simp only [newM]; omega,by simp only [newM]; omega,fun _=>hq.block (.inr k),fun h=>(by cases h),fun h=>(by cases h),fun _=>⟨rfl,rfl,rfl,rfl⟩⟩
 have hdone:r.op = true → RecOk (doneM r):=fun o=>
  ⟨hr.fence,hr.ie,hr.is,by simp only [doneM]; omega,by simp only [doneM]; omega,by simp only [doneM]; omega,fun _=>hr.staged o,fun h=>(by have h2:=hop o; simp only [doneM] at h; rw [h2] at h; cases h),fun h=>(by cases h),fun _=>⟨rfl,rfl,rfl,rfl⟩⟩
 have hclosed:r.op = true → RecOk (closedM r):=fun o=>
  ⟨hr.fence,hr.de,hr.ds,by simp only [closedM]; omega,by simp only [closedM]; omega,by simp only [closedM]; omega,fun h=>hr.block h,fun h=>(by have h2:=hop o; simp only [closedM] at h; rw [h2] at h; cases h),fun h=>(by cases h),fun _=>⟨rfl,rfl,rfl,rfl⟩⟩
 revert hd
 generalize applyM r q = p
 intro hd
 cases hd with
 | follow k h=>
  have h1:=hq.epoch (by omega)
  exact ⟨by simp only [followM]; omega,hr.de,hr.ds,hr.ie,hr.is,hr.mask,hr.block,hr.none,hr.staged,hr.shut⟩
 | putN k h u b=>exact hnew k
 | putB k h u=>exact hnew k
 | prepN k h u b o=>
  have h1:=hq.epoch (by omega)
  have h2:=hq.seq (by omega)
  have h3:=hq.mask4 k
  exact ⟨hr.fence,hr.de,hr.ds,by simp only [sayM,openM]; omega,by simp only [sayM,openM]; omega,by simp only [sayM,openM]; omega,hr.block,fun h=>(by simp only [sayM,openM] at h; rw [u] at h; cases h),fun _=>hq.block (.inl k),fun h=>(by cases h)⟩
 | comI k h u o i=>exact hdone o
 | setD k h u o i m=>exact hdone o
 | setC k h u o i m=>exact hclosed o
 | _=>exact hr
end Go.Proofs.Ytfiheghjhgnblaa
