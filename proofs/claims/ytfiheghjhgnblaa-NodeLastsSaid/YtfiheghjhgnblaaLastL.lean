import Derived.Test.YtfiheghjhgnblaaShelfN
import Derived.Test.YtfiheghjhgnblaaPlatH
namespace Go.Proofs.Ytfiheghjhgnblaa
open Go.RowKit
structure LmPl (lb mb n:Nat) (M:Pl):Prop where
  lb:M.lb = lb
  mb:M.mb = mb
  n:M.n = n
theorem LmPl.mine {lb mb n pb:Nat} {M:Pl} (h:LmPl lb mb n M):∀ x,minePl pb M x → x = pb ∨ x = lb ∨ x = mb:=fun x hx=>by
  unfold minePl at hx
  rwa [h.lb,h.mb] at hx
theorem LmPl.arm {lb mb n:Nat} {M:Pl} (h:LmPl lb mb n M) (d:Int):LmPl lb mb n (armPl M d):=by
  unfold armPl
  split
  · exact ⟨h.lb,h.mb,h.n⟩
  · exact h
theorem LmPl.write {lb mb n:Nat} {M:Pl} (h:LmPl lb mb n M) (k:Int) (L:List Int):LmPl lb mb n (writePl M k L):=by
  obtain ⟨_,_,_,h4,h5,h6⟩:=actPl_with M
  unfold writePl
  split
  · exact ⟨h5.trans h.lb,h6.trans h.mb,h4.trans h.n⟩
  · exact ⟨h5.trans h.lb,h6.trans h.mb,h4.trans h.n⟩
theorem LmPl.flush {lb mb n:Nat} {M:Pl} (h:LmPl lb mb n M):LmPl lb mb n (flushPl M):=by
  obtain ⟨_,_,_,h4,h5,h6⟩:=actPl_with M
  unfold flushPl
  split
  · exact ⟨h5.trans h.lb,h6.trans h.mb,h4.trans h.n⟩
  · exact ⟨h5.trans h.lb,h6.trans h.mb,h4.trans h.n⟩
theorem LmPl.set {lb mb n:Nat} {M:Pl} (h:LmPl lb mb n M) (k:Int) (r:RecM):LmPl lb mb n (setPl M k r):=by
  unfold setPl
  split
  · exact (h.write k _).flush
  · exact h.write k _
theorem LmPl.restart {lb mb n:Nat} {M:Pl} (h:LmPl lb mb n M) (keep:Nat → Bool):LmPl lb mb n (restartPl M keep):=⟨h.lb,h.mb,h.n⟩
theorem OnPl.lm {lb mb n:Nat} {c:Int} {M:Pl} (h:OnPl lb mb n c M):LmPl lb mb n M:=⟨h.lb,h.mb,h.n⟩
structure ClPl (lb mb n:Nat) (c:Int) (M:Pl):Prop where
  on:OnPl lb mb n c M
  cs:M.cs = []
theorem cl_fmt {lb mb n pb:Nat} {c:Int} {M:Pl} (h:OnPl lb mb n c M) (hp:PlOk pb M) (hn:n ≤ 8) (j:Nat) (hj:j + 1 ≤ n):ClPl lb mb n (c + 2 * ((j + 1:Nat):Int)) (fmtPl M (j + 1)):=by
  refine ⟨(on_fmt h hp hn (j + 1) hj).1,?_⟩
  obtain ⟨h1,_,_⟩:=on_fmt h hp hn j (by omega)
  show (setPl (fmtPl M j) (j:Int) fmtR).cs = []
  rw [set_on h1.off h1.armed]
theorem kept_val {cs:List CE} (hn:(cs.map (·.k)).Nodup) (keep:Nat → Bool) (i:Nat) (k:Int):valC (keptC cs keep i) k = none ∨ valC (keptC cs keep i) k = valC cs k:=by
  cases hv:valC (keptC cs keep i) k with
  | none=>exact .inl rfl
  | some L=>
    refine .inr ?_
    have hn0:((keptC cs keep i).map (·.k)).Nodup:=nodup_filter _ _ hn
    obtain ⟨c,hc,h1,h2⟩:=(valC_iff hn0 k L).1 hv
    exact ((valC_iff hn k L).2 ⟨c,(List.mem_filter.1 hc).1,h1,h2⟩).symm
theorem arm_is {M:Pl} {d:Int} (hd:0 ≤ d ∧ d ≤ 3):armPl M d = { M with armed:=d }:=by
  unfold armPl
  rw [if_pos (by omega)]
theorem read_cut {M M4:Pl} {pb:Nat} {B:Int} {L:List Int} {cs:List CE} (hp:PlOk pb M) (hcs:M.cs = []) (h4:M4.cs = []) (hl:M4.last = ovl M.last cs) (hv:∀ k,k ≠ B → valC cs k = none) (hB:valC cs B = none ∨ valC cs B = some L) (hr:0 ≤ B ∧ B < (M.n:Int)) :
    (∀ k,0 ≤ k → k ≠ B → readPl M4 k = readPl M k) ∧ (readPl M4 B = readPl M B ∨ readPl M4 B = L) ∧ (valC cs B = some L → readPl M4 B = L) ∧ (valC cs B = none → readPl M4 B = readPl M B):=by
  have e:∀ k,0 ≤ k → ((k.toNat:Nat):Int) = k:=fun k hk=>by omega
  have hlt:B.toNat < M.last.length:=by rw [hp.len]; omega
  have n0:∀ k,valC M.cs k = none:=fun k=>by rw [hcs]; rfl
  have n4:∀ k,valC M4.cs k = none:=fun k=>by rw [h4]; rfl
  have key:∀ k,0 ≤ k → readPl M4 k = ((M.last[k.toNat]?.map fun X=>(valC cs k).getD X)).getD zeroSec:=fun k hk=>by
    unfold readPl
    rw [n4,hl,ovl_get,e k hk]
    rfl
  have same:∀ k,0 ≤ k → valC cs k = none → readPl M4 k = readPl M k:=fun k hk h=>by
    rw [key k hk,h]
    unfold readPl
    rw [n0]
    simp
  have new:valC cs B = some L → readPl M4 B = L:=fun h=>by
    rw [key B hr.1,h,List.getElem?_eq_getElem hlt]
    rfl
  exact ⟨fun k hk hne=>same k hk (hv k hne),hB.imp (same B hr.1) new,new,same B hr.1⟩
theorem last_step {lb mb n pb:Nat} {c d:Int} {M:Pl} {B:Int} {r:RecM} (h:ClPl lb mb n c M) (hp:PlOk pb M) (hd:0 ≤ d ∧ d ≤ 3) (hrk:RecOk r) (hB:0 ≤ B ∧ B ≤ 7) (hBn:B < (n:Int)) (keep:Nat → Bool) :
    ClPl lb mb n (c + 2) (restartPl (armPl (setPl (armPl M d) B r) 0) keep) ∧
    (∀ k,0 ≤ k → k ≠ B → gotM (restartPl (armPl (setPl (armPl M d) B r) 0) keep) k = gotM M k) ∧
    ((setE (armPl M d) B r = 0 ∧ (setPl (armPl M d) B r).off = false ∧ gotM (restartPl (armPl (setPl (armPl M d) B r) 0) keep) B = r) ∨
     (setE (armPl M d) B r = 70 ∧ (setPl (armPl M d) B r).off = true ∧ (gotM (restartPl (armPl (setPl (armPl M d) B r) 0) keep) B = gotM M B ∨ gotM (restartPl (armPl (setPl (armPl M d) B r) 0) keep) B = r))):=by
  obtain ⟨hO,hcs⟩:=h
  have hBn':0 ≤ B ∧ B < (M.n:Int):=by rw [hO.n]; omega
  have hgot:∀ {M4:Pl},readPl M4 B = secOf B r → gotM M4 B = r:=fun e=>by
    unfold gotM
    rw [e]
    unfold secOf
    rw [bytesI_intsOf,(unpack_pack hB hrk).1]
  have hsame:∀ {M4:Pl} {k:Int},readPl M4 k = readPl M k → gotM M4 k = gotM M k:=fun e=>by
    unfold gotM
    rw [e]
  have hput:∀ k,valC (putC M.cs M.ck B (secOf B r)).1 k = if k = B then some (secOf B r) else none:=fun k=>by
    rw [putC_val hp.nk,hcs]
    rfl
  have hnk2:((putC M.cs M.ck B (secOf B r)).1.map (·.k)).Nodup:=(hp.put hBn' (secOk_of (size_packS B r))).nk
  rw [arm_is hd,arm_is (M:=setPl _ B r) (d:=0) (by omega)]
  have hd4:d = 0 ∨ d = 1 ∨ d = 2 ∨ d = 3:=by omega
  have ha:=hO.acts
  have hof:=hO.off
  have both:∀ (x:Int) (M2:Pl),M2.last = ovl M.last (putC M.cs M.ck B (secOf B r)).1 → M2.cs = [] → M2.lb = lb → M2.mb = mb → M2.n = n → M2.acts ≤ c + 2 →
      ClPl lb mb n (c + 2) (restartPl { M2 with armed:=0 } keep) ∧ (∀ k,0 ≤ k → k ≠ B → gotM (restartPl { M2 with armed:=0 } keep) k = gotM M k) ∧ gotM (restartPl { M2 with armed:=0 } keep) B = r:=by
    intro x M2 hl hc2 h1 h2 h3 h4
    have hl4:(restartPl { M2 with armed:=0 } keep).last = ovl M.last (putC M.cs M.ck B (secOf B r)).1:=by
      show ovl M2.last (keptC M2.cs keep M2.cs.length) = _
      rw [hc2]
      show ovl M2.last [] = _
      rw [ovl_nil,hl]
    obtain ⟨g1,_,g3,_⟩:=read_cut (M4:=restartPl { M2 with armed:=0 } keep) (L:=secOf B r) hp hcs rfl hl4 (fun k hk=>by rw [hput,if_neg hk]) (.inr (by rw [hput,if_pos rfl])) hBn'
    exact ⟨⟨⟨h1,h2,h3,rfl,rfl,h4⟩,rfl⟩,fun k hk hne=>hsame (g1 k hk hne),hgot (g3 (by rw [hput,if_pos rfl]))⟩
  obtain ⟨lb',mb',n',last,cs,ck,off,a,arm⟩:=M
  have e1:lb' = lb:=hO.lb
  have e2:mb' = mb:=hO.mb
  have e3:n' = n:=hO.n
  have e4:off = false:=hof
  have e5:cs = []:=hcs
  subst e1 e2 e3 e4 e5
  dsimp only at ha
  rcases hd4 with rfl | rfl | rfl | rfl
  · obtain ⟨g1,g2,g3⟩:=both 0 (setPl ⟨lb',mb',n',last,[],ck,false,a,0⟩ B r) rfl rfl rfl rfl rfl (by show a + 1 + 1 ≤ _; omega)
    exact ⟨g1,g2,.inl ⟨rfl,rfl,g3⟩⟩
  · have hl4:(restartPl { setPl ⟨lb',mb',n',last,[],ck,false,a,1⟩ B r with armed:=0 } keep).last = ovl last []:=rfl
    obtain ⟨g1,_,_,g4⟩:=read_cut (M4:=restartPl { setPl ⟨lb',mb',n',last,[],ck,false,a,1⟩ B r with armed:=0 } keep) (B:=B) (L:=secOf B r) hp rfl rfl hl4 (fun k _=>rfl) (.inl rfl) hBn'
    exact ⟨⟨⟨rfl,rfl,rfl,rfl,rfl,by show a + 1 ≤ _; omega⟩,rfl⟩,fun k hk hne=>hsame (g1 k hk hne),.inr ⟨rfl,rfl,.inl (hsame (g4 rfl))⟩⟩
  · have hl4:(restartPl { setPl ⟨lb',mb',n',last,[],ck,false,a,2⟩ B r with armed:=0 } keep).last = ovl last (keptC (putC ([]:List CE) ck B (secOf B r)).1 keep (putC ([]:List CE) ck B (secOf B r)).1.length):=rfl
    have hv:∀ k,k ≠ B → valC (keptC (putC ([]:List CE) ck B (secOf B r)).1 keep (putC ([]:List CE) ck B (secOf B r)).1.length) k = none:=fun k hk=>by
      rcases kept_val hnk2 keep (putC ([]:List CE) ck B (secOf B r)).1.length k with h | h
      · exact h
      · rw [h,hput,if_neg hk]
    have hvB:valC (keptC (putC ([]:List CE) ck B (secOf B r)).1 keep (putC ([]:List CE) ck B (secOf B r)).1.length) B = none ∨ valC (keptC (putC ([]:List CE) ck B (secOf B r)).1 keep (putC ([]:List CE) ck B (secOf B r)).1.length) B = some (secOf B r):=by
      rcases kept_val hnk2 keep (putC ([]:List CE) ck B (secOf B r)).1.length B with h | h
      · exact .inl h
      · exact .inr (by rw [h,hput,if_pos rfl])
    obtain ⟨g1,g2,_,_⟩:=read_cut (M4:=restartPl { setPl ⟨lb',mb',n',last,[],ck,false,a,2⟩ B r with armed:=0 } keep) (L:=secOf B r) hp rfl rfl hl4 hv hvB hBn'
    exact ⟨⟨⟨rfl,rfl,rfl,rfl,rfl,by show a + 1 + 1 ≤ _; omega⟩,rfl⟩,fun k hk hne=>hsame (g1 k hk hne),.inr ⟨rfl,rfl,g2.imp hsame hgot⟩⟩
  · obtain ⟨g1,g2,g3⟩:=both 0 (setPl ⟨lb',mb',n',last,[],ck,false,a,3⟩ B r) rfl rfl rfl rfl rfl (by show a + 1 + 1 ≤ _; omega)
    exact ⟨g1,g2,.inl ⟨rfl,rfl,g3⟩⟩
end Go.Proofs.Ytfiheghjhgnblaa
