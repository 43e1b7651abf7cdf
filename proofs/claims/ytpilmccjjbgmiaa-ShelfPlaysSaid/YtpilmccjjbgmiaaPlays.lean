import Derived.Test.YtpilmccjjbgmiaaTexts6
import Derived.Test.YtpilmccjjbgmiaaTextsY
import Derived.Test.YtpilmccjjbgmiaaFit8
import Derived.Test.YtpilmccjjbgmiaaAwake8
import Derived.Test.YtpilmccjjbgmiaaRefN7
import Derived.Test.YtpilmccjjbgmiaaRefR7
namespace Go.Proofs.Ytpilmccjjbgmiaa
open Go.RowKit
def spy_v1 (xa:Act8):List Value:=[i6 xa.what,i6 xa.stripe,i6 xa.nn,i6 xa.raw.flags,i6 xa.raw.fence,i6 xa.raw.epoch,i6 xa.raw.seq,i6 xa.raw.ie,i6 xa.raw.is,i6 xa.raw.mask,sT xa.raw.block,sT xa.raw.staged,sT xa.text,.slice xa.ka xa.kn xa.kc]
def spy_v2 (r:RecM):List Value:=[.bool r.used,i6 r.fence,i6 r.de,i6 r.ds,sT r.block,.bool r.op,i6 r.ie,i6 r.is,i6 r.mask,sT r.staged]
def spy_v3 (xa:Act8):List Value:=[i6 xa.raw.flags,i6 xa.raw.fence,i6 xa.raw.epoch,i6 xa.raw.seq,i6 xa.raw.ie,i6 xa.raw.is,i6 xa.raw.mask,sT xa.raw.block,sT xa.raw.staged]
def spy_v4 (stripes:Int) (xa:Act8) (M2:Pl):List Value:=[.bool ((getGR stripes M2 xa.stripe).used),i6 ((getGR stripes M2 xa.stripe).fence),i6 ((getGR stripes M2 xa.stripe).de),i6 ((getGR stripes M2 xa.stripe).ds),sT ((getGR stripes M2 xa.stripe).block),.bool ((getGR stripes M2 xa.stripe).op),i6 ((getGR stripes M2 xa.stripe).ie),i6 ((getGR stripes M2 xa.stripe).is),i6 ((getGR stripes M2 xa.stripe).mask),sT ((getGR stripes M2 xa.stripe).staged)]
def spy_Q (w:World):Exit → Act → World → Prop:=bodyPost Try.prog Try.f10 (RetK (.bool true) w)
def spy_n1:List Nat:=[0,1,2,3,4,5,6,7,8,9]
def spy_n2:List Nat:=[1,1,1,1,1,1,1,1,1,1,0,1,0,0,1,0,0,1,1,0,1,0,1,0,0]
def spy_n3:List Nat:=[1,1,1,1,1,1,1,1,1,1,0,1,0,0,1,0,0,1,1,0,1,0,1,0,1,0,1]
def spy_n4:List Nat:=[1,1,1,1,1,1,1,1,1,1,0,1,0,0,1,0,0,1,1,0,1,0,1,0,1,1]
def spy_n5:List Nat:=[1,1,1,1,1,1,1,1,1,1,0,1,0,0,1,0,0,1,1,0,1,0,1,0,1]
def spy_n6:List Nat:=[1,1,1,1,1,1,1,1,1,1,0,1,0,0,1,0,0,1,1,0,1,0,1,1,1,0]
def spy_n7:List Nat:=[1,1,1,1,1,1,1,1,1,1,0,1,0,0,1,0,0,1,1,0,1,0,1,1,1,1,1,0]
def spy_n8:List Nat:=[1,1,1,1,1,1,1,1,1,1,0,1,0,0,1,0,0,1,1,0,1,0,1,1,1,1,1,1,1,0,1]
def spy_n9:List Nat:=[1,1,1,1,1,1,1,1,1,1,0,1,0,0,1,0,0,1,1,0,1,0,1,1,1,1,1,1,1,1,1,0,1]
def spy_n10:List Nat:=[1,1,1,1,1,1,1,1,1,1,0,1,0,0,1,0,0,1,1,0,1,0,1,1,1,1,1,1,1,1,1,1,1,0,1]
def spy_n11:List Nat:=[1,1,1,1,1,1,1,1,1,1,0,1,0,0,1,0,0,1,1,1,0]
def spy_n12:List Nat:=[1,1,1,1,1,1,1,1,1,1,0,1,0,0,1,0,0,1,1,1,1,1,0]
def spy_n13:List Nat:=[1,1,1,1,1,1,1,1,1,1,0,1,0,0,1,0,0,1,1,1,1,1,1]
def spy_n14:List Nat:=[1,1,1,1,1,1,1,1,1,1,0,1,0,0,1,0,0,1,1,1,1]
def spy_n15:List Nat:=[1,1,1,1,1,1,1,1,1,1,0,1,0,0,1,0,0,1,1,1]
def spy_n16:List Nat:=[1,1,1,1,1,1,1,1,1,1,0,1,0,0,1,1]
def spy_n17:List Nat:=[1,1,1,1,1,1,1,1,1,1,1,0]
def spy_n18:List Nat:=[1,1,1,1,1,1,1,1,1,1,1,1]
def spy_n19:List Nat:=[1,1,1,1,1,1,1,1,1,1,1]
def spy_n20:List Nat:=[2,6,8,10,12,14,18,19,20,113,114,116,118,119,121]
def spy_n21:List Nat:=[2,6,8,10,12,14,18,19,20,113,114,116,118,120,121]
def spy_n22:List Nat:=[2,6,8,10,12,14,18,19,20,113,115,116,118,119,121]
def spy_n23:List Nat:=[2,6,8,10,12,14,18,19,20,113,115,116,118,120,121]
def spy_n24:List Nat:=[2,6,8,10,12,14,18,19,20,117,118,119,121]
def spy_n25:List Nat:=[2,6,8,10,12,14,18,19,20,117,118,120,121]
def spy_n26:List Nat:=[2,6,8,10,12,14,18,19,20,133,135,137,139]
def spy_n27:List Nat:=[2,6,8,10,12,14,18,19,20,166,168,169,171,173,174]
def spy_n28:List Nat:=[2,6,8,10,12,14,18,19,20,170,171,173,174]
def spy_n29:List Nat:=[2,6,8,10,12,14,18,19,20,21,113,114,116,118,120]
def spy_n30:List Nat:=[2,6,8,10,12,14,18,19,20,21,113,114,118,120,121]
def spy_n31:List Nat:=[2,6,8,10,12,14,18,19,20,21,113,115,116,118,119]
def spy_n32:List Nat:=[2,6,8,10,12,14,18,19,20,21,113,115,116,118,120]
def spy_n33:List Nat:=[2,6,8,10,12,14,18,19,20,21,113,115,118,119,121]
def spy_n34:List Nat:=[2,6,8,10,12,14,18,19,20,21,113,115,118,120,121]
def spy_n35:List Nat:=[2,6,8,10,12,14,18,19,20,21,113,115,118,120]
def spy_n36:List Nat:=[2,6,8,10,12,14,18,19,20,21]
def spy_n37:List Nat:=[2,6,8,10,12,14,18,19,20,22]
def spy_n38:List Nat:=[2,6,8,10,12,14,18,19,20]
def spy_n39:Array Bool:=#[false,false,false,false,false,false,false,false,false,false,false,false]
def spy_n40:Array Bool:=#[false,false,false,false,false,false,false,false,false,false]
def spy_n41:Array Bool:=#[true,true,false,false,false,true,true,false,false,false,false,false]
def spy_n42:Array Bool:=#[true,true,false,false,false,true,true,false,true,false,false,false]
def spy_n43:Array Bool:=#[true,true,false,false,false,true,true,true,false,false,false,false]
def spy_n44:Array Bool:=#[true,true,false,false,false,true,true,true,true,false,false,false]
def spy_n45:Array Bool:=#[true,true,false,false,true,true,false,false,false,false]
def spy_n46:Array Bool:=#[true,true,false,false,true,true,true,false,false,false]
def spy_n47:Array Bool:=#[true,true,false,true,false,true,true,false,false,false,false,false]
def spy_n48:Array Bool:=#[true,true,false,true,false,true,true,false,true,false,false,false]
def spy_n49:Array Bool:=#[true,true,false,true,false,true,true,true,false,false,false,false]
def spy_n50:Array Bool:=#[true,true,false,true,false,true,true,true,true,false,false,false]
def spy_n51:Array Bool:=#[true,true,true,false,false,true,true,false,false,false,false,false]
def spy_n52:Array Bool:=#[true,true,true,false,false,true,true,false,true,false,false,false]
def spy_n53:Array Bool:=#[true,true,true,false,false,true,true,true,false,false,false,false]
def spy_n54:Array Bool:=#[true,true,true,false,false,true,true,true,true,false,false,false]
def spy_n55:Array Bool:=#[true,true,true,false,true,true,false,false,false,false]
def spy_n56:Array Bool:=#[true,true,true,false,true,true,true,false,false,false]
def spy_n57:Array Bool:=#[true,true,true,true,false,true,true,false,false,false,false,false]
def spy_n58:Array Bool:=#[true,true,true,true,false,true,true,false,true,false,false,false]
def spy_n59:Array Bool:=#[true,true,true,true,false,true,true,true,false,false,false,false]
def spy_n60:Array Bool:=#[true,true,true,true,false,true,true,true,true,false,false,false]
def spy_n61:Array Bool:=#[true,true,true,true,true,true,false,false,false,false]
def spy_n62:Array Bool:=#[true,true,true,true,true,true,true,false,false,false,false,false]
def spy_n63:Array Bool:=#[true,true,true,true,true,true,true,false,false,false]
def spy_n64:Array Bool:=#[true,true,true,true,true,true,true,false,true,false,false,false]
def spy_n65:Array Bool:=#[true,true,true,true,true,true,true,true,false,false,false,false]
def spy_n66:Array Bool:=#[true,true,true,true,true,true,true,true,false,false]
def spy_n67:Array Bool:=#[true,true,true,true,true,true,true,true,true,false,false,false]
def spy_n68:Array Bool:=#[true,true,true,true,true,true,true,true,true,false]
def spy_n69:Array Bool:=#[true,true,true,true,true,true,true,true,true,true,false,false]
def spy_n70:Array Bool:=#[true,true,true,true,true,true,true,true,true,true,true,false]
def spy_n71:Array Bool:=#[true,true,true,true,true,true,true,true,true,true,true,true]
def spy_n72:Array Bool:=#[true,true,true,true,true,true,true,true,true,true]
@[simp] def spy_b1 (stripes:Int) (pb:Nat) (g:G7) (sb:Nat) (sr:Nat):List Bk:=[⟨sb,92,false,[(pt pb 0),i6 stripes]⟩,⟨sr,102,false,[(pt g.qb 0),i6 stripes]⟩]
@[simp] def spy_b2 (stripes:Int) (xa:Act8) (pb:Nat) (g:G7) (sb:Nat) (sr:Nat) (W10:World):List Bk:=[⟨sb,92,false,[(pt pb 0),i6 stripes]⟩,⟨sr,102,false,[(pt g.qb 0),i6 stripes]⟩,⟨W10.heap.size,68,true,(spy_v1 xa)⟩]
@[simp] def spy_b3 (stripes:Int) (xa:Act8) (pb:Nat) (g:G7) (sb:Nat) (sr:Nat) (r:RecM) (W10:World) (z75:Nat):List Bk:=[⟨sb,92,false,[(pt pb 0),i6 stripes]⟩,⟨sr,102,false,[(pt g.qb 0),i6 stripes]⟩,⟨W10.heap.size,68,true,(spy_v1 xa)⟩,⟨z75,25,true,(spy_v2 r)⟩]
@[simp] def spy_b4 (stripes:Int) (xa:Act8) (pb:Nat) (g:G7) (sb:Nat) (sr:Nat) (yt:Nat × Nat × List Value) (W10:World) (W11:World):List Bk:=[⟨sb,92,false,[(pt pb 0),i6 stripes]⟩,⟨sr,102,false,[(pt g.qb 0),i6 stripes]⟩,⟨W10.heap.size,68,true,(spy_v1 xa)⟩,⟨W11.heap.size,9,true,[sT xa.text]⟩,⟨yt.1,9,true,(sT (strL 64 xa.text) :: yt.2.2)⟩]
@[simp] def spy_b5 (stripes:Int) (xa:Act8) (pb:Nat) (g:G7) (sb:Nat) (sr:Nat) (M2:Pl) (W10:World) (z86:Nat) (z88:Nat):List Bk:=[⟨sb,92,false,[(pt pb 0),i6 stripes]⟩,⟨sr,102,false,[(pt g.qb 0),i6 stripes]⟩,⟨W10.heap.size,68,true,(spy_v1 xa)⟩,⟨z86,25,true,(spy_v4 stripes xa M2)⟩,⟨z88,25,true,(spy_v4 stripes xa M2)⟩]
def PlaysI (stripes:Int) (A:Option Addr) (n:Nat) (cp:Nat) (np:Nat) (lb:Nat) (mb:Nat) (pb:Nat) (g:G7) (sb:Nat) (sr:Nat)  (m:Nat) (st:St) (W1:World):Prop:=
 ∃ (i:Nat) (M:Pl) (z:Nat),m + i = 60 ∧ minePl pb M = minePl pb (newPl lb mb np) ∧ M.n = np ∧ M.acts ≤ 16 * (i:Int) ∧ PlatAt 90 94 W1 pb M ∧ RefAt 99 9 4 W1 g M ∧ st = ⟨[(2,.slice A n cp),(6,.bool false),(8,(pt pb 0)),(10,(pt g.qb 0)),(12,(pt sb 0)),(14,(pt sr 0)),(18,.int .i64 (i:Int))],(spy_b1 stripes pb g sb sr),[],z⟩
theorem spy_t53 (stripes:Int) (n:Nat) (cp:Nat) (xa:Act8) (i:Nat) (pb:Nat) (g:G7) (sb:Nat) (sr:Nat) (b:Nat) (o:Nat) (W10:World) (W11:World):tailP [2,6,8,10,12,14,18,19,20,133,134,137,138] (tailX Try.prog 222 (opsOf (getCode (bodyOf Try.f10) spy_n7)) 10 spy_n40 ⟨[(2,.slice (some ⟨b,o,none⟩) n cp),(6,.bool false),(8,(pt pb 0)),(10,(pt g.qb 0)),(12,(pt sb 0)),(14,(pt sr 0)),(18,i6 (i:Int)),(19,(pt W10.heap.size 0)),(20,.bool true)],(spy_b2 stripes xa pb g sb sr W10),[],W11.heap.size⟩ [(0,true,oh0),(1,true,oh0),(4,true,oh0),(5,true,oh0)]) = some (⟨[],dupR [],⟨[(2,.slice (some ⟨b,o,none⟩) n cp),(6,.bool false),(8,(pt pb 0)),(10,(pt g.qb 0)),(12,(pt sb 0)),(14,(pt sr 0)),(18,i6 (i:Int)),(19,(pt W10.heap.size 0)),(20,.bool true),(133,(pt pb 0)),(134,(pt W10.heap.size 2)),(137,(pt g.qb 0)),(138,(pt W10.heap.size 2))],(spy_b2 stripes xa pb g sb sr W10),[],W11.heap.size⟩⟩,6,spy_n45):=by kernel_rfl
def spy_54B (stripes:Int) (xa:Act8) (pb:Nat) (g:G7) (sb:Nat) (sr:Nat) (W10:World):List Bk:=(spy_b2 stripes xa pb g sb sr W10)
def spy_54H0 (stripes:Int) (xa:Act8) (pb:Nat) (g:G7) (sb:Nat) (sr:Nat) (M:Pl) (w:World) (W10:World) (J:Act → World → Prop) (m:Nat) (ls:Array Bool) (sl:List (Nat × Value)):Prop:=∀ Wd:World,PlatAt 90 94 Wd pb M ∧ RefAt 99 9 4 Wd g M → MemOk w (fun _=>False) (spy_54B stripes xa pb g sb sr W10) [] Wd.heap.size Wd → Holds [] Try.prog (bodyOf Try.f10) 222 Wd (Turned (spy_54B stripes xa pb g sb sr W10)) (bodyPost Try.prog Try.f10 (RetK (.bool true) w)) (.any spy_n7 m ls :: [.blk 2,.code spy_n15,.blk 1,.code spy_n16,.inv J,.blk 0,.code spy_n19]) ⟨sl,(spy_54B stripes xa pb g sb sr W10),[],Wd.heap.size⟩
def spy_54H1 (stripes:Int) (xa:Act8) (pb:Nat) (g:G7) (sb:Nat) (sr:Nat) (M:Pl) (w:World) (W10:World) (J:Act → World → Prop) (m:Nat) (ls:Array Bool) (sl:List (Nat × Value)):Prop:=∀ Wd:World,PlatAt 90 94 Wd pb (armPl M xa.nn) ∧ RefAt 99 9 4 Wd g M → MemOk w (fun _=>False) (spy_54B stripes xa pb g sb sr W10) [] Wd.heap.size Wd → Holds [] Try.prog (bodyOf Try.f10) 222 Wd (Turned (spy_54B stripes xa pb g sb sr W10)) (bodyPost Try.prog Try.f10 (RetK (.bool true) w)) (.any spy_n7 m ls :: [.blk 2,.code spy_n15,.blk 1,.code spy_n16,.inv J,.blk 0,.code spy_n19]) ⟨sl,(spy_54B stripes xa pb g sb sr W10),[],Wd.heap.size⟩
def spy_54H2 (stripes:Int) (xa:Act8) (pb:Nat) (g:G7) (sb:Nat) (sr:Nat) (M:Pl) (w:World) (W10:World) (J:Act → World → Prop) (m:Nat) (ls:Array Bool) (sl:List (Nat × Value)):Prop:=∀ Wd:World,PlatAt 90 94 Wd pb (armPl M xa.nn) ∧ RefAt 99 9 4 Wd g (armPl M xa.nn) → MemOk w (fun _=>False) (spy_54B stripes xa pb g sb sr W10) [] Wd.heap.size Wd → Holds [] Try.prog (bodyOf Try.f10) 222 Wd (Turned (spy_54B stripes xa pb g sb sr W10)) (bodyPost Try.prog Try.f10 (RetK (.bool true) w)) (.any spy_n7 m ls :: [.blk 2,.code spy_n15,.blk 1,.code spy_n16,.inv J,.blk 0,.code spy_n19]) ⟨sl,(spy_54B stripes xa pb g sb sr W10),[],Wd.heap.size⟩
theorem spy_t70 (stripes:Int) (n:Nat) (cp:Nat) (xa:Act8) (i:Nat) (pb:Nat) (g:G7) (sb:Nat) (sr:Nat) (b:Nat) (o:Nat) (W10:World) (W19:World):tailP [2,6,8,10,12,14,18,19,20,166,167,169,171,172,174] (tailX Try.prog 222 (opsOf (getCode (bodyOf Try.f10) spy_n10)) 12 spy_n39 ⟨[(2,.slice (some ⟨b,o,none⟩) n cp),(6,.bool false),(8,(pt pb 0)),(10,(pt g.qb 0)),(12,(pt sb 0)),(14,(pt sr 0)),(18,i6 (i:Int)),(19,(pt W10.heap.size 0)),(20,.bool true),(22,sT (strL 64 xa.text))],(spy_b2 stripes xa pb g sb sr W10),[],W19.heap.size⟩ [(0,true,oh0),(1,true,oh0),(3,true,oh0),(5,true,oh0),(6,true,oh0),(8,true,oh0)]) = some (⟨[],dupR [],⟨[(2,.slice (some ⟨b,o,none⟩) n cp),(6,.bool false),(8,(pt pb 0)),(10,(pt g.qb 0)),(12,(pt sb 0)),(14,(pt sr 0)),(18,i6 (i:Int)),(19,(pt W10.heap.size 0)),(20,.bool true),(166,(pt pb 0)),(167,(pt W10.heap.size 1)),(169,sT (strL 64 xa.text)),(171,(pt g.qb 0)),(172,(pt W10.heap.size 1)),(174,sT (strL 64 xa.text))],(spy_b2 stripes xa pb g sb sr W10),[],W19.heap.size⟩⟩,6,spy_n48):=by kernel_rfl
def spy_71B (stripes:Int) (xa:Act8) (pb:Nat) (g:G7) (sb:Nat) (sr:Nat) (W10:World):List Bk:=(spy_b2 stripes xa pb g sb sr W10)
def spy_71H0 (stripes:Int) (xa:Act8) (pb:Nat) (g:G7) (sb:Nat) (sr:Nat) (M:Pl) (w:World) (W10:World) (J:Act → World → Prop) (m:Nat) (ls:Array Bool) (sl:List (Nat × Value)):Prop:=∀ Wd:World,PlatAt 90 94 Wd pb M ∧ RefAt 99 9 4 Wd g M → MemOk w (fun _=>False) (spy_71B stripes xa pb g sb sr W10) [] Wd.heap.size Wd → Holds [] Try.prog (bodyOf Try.f10) 222 Wd (Turned (spy_71B stripes xa pb g sb sr W10)) (bodyPost Try.prog Try.f10 (RetK (.bool true) w)) (.any spy_n10 m ls :: [.blk 2,.code spy_n15,.blk 1,.code spy_n16,.inv J,.blk 0,.code spy_n19]) ⟨sl,(spy_71B stripes xa pb g sb sr W10),[],Wd.heap.size⟩
def spy_71H1 (stripes:Int) (xa:Act8) (pb:Nat) (g:G7) (sb:Nat) (sr:Nat) (M:Pl) (w:World) (W10:World) (J:Act → World → Prop) (m:Nat) (ls:Array Bool) (sl:List (Nat × Value)):Prop:=∀ Wd:World,PlatAt 90 94 Wd pb (wrPl M xa.stripe (intsOf (strL 64 xa.text))) ∧ RefAt 99 9 4 Wd g M → MemOk w (fun _=>False) (spy_71B stripes xa pb g sb sr W10) [] Wd.heap.size Wd → Holds [] Try.prog (bodyOf Try.f10) 222 Wd (Turned (spy_71B stripes xa pb g sb sr W10)) (bodyPost Try.prog Try.f10 (RetK (.bool true) w)) (.any spy_n10 m ls :: [.blk 2,.code spy_n15,.blk 1,.code spy_n16,.inv J,.blk 0,.code spy_n19]) ⟨sl,(spy_71B stripes xa pb g sb sr W10),[],Wd.heap.size⟩
def spy_71H2 (stripes:Int) (xa:Act8) (pb:Nat) (g:G7) (sb:Nat) (sr:Nat) (M:Pl) (w:World) (W10:World) (J:Act → World → Prop) (m:Nat) (ls:Array Bool) (sl:List (Nat × Value)):Prop:=∀ Wd:World,PlatAt 90 94 Wd pb (wrPl M xa.stripe (intsOf (strL 64 xa.text))) ∧ RefAt 99 9 4 Wd g (wrPl M xa.stripe (intsOf (strL 64 xa.text))) → MemOk w (fun _=>False) (spy_71B stripes xa pb g sb sr W10) [] Wd.heap.size Wd → Holds [] Try.prog (bodyOf Try.f10) 222 Wd (Turned (spy_71B stripes xa pb g sb sr W10)) (bodyPost Try.prog Try.f10 (RetK (.bool true) w)) (.any spy_n10 m ls :: [.blk 2,.code spy_n15,.blk 1,.code spy_n16,.inv J,.blk 0,.code spy_n19]) ⟨sl,(spy_71B stripes xa pb g sb sr W10),[],Wd.heap.size⟩
theorem spy_t82 (stripes:Int) (n:Nat) (cp:Nat) (xa:Act8) (i:Nat) (pb:Nat) (g:G7) (sb:Nat) (sr:Nat) (r:RecM) (b:Nat) (o:Nat) (W10:World) (W24:World) (z75:Nat):tailP [2,6,8,10,12,14,18,19,20,21,113,114,118,119] (tailX Try.prog 222 (opsOf (getCode (bodyOf Try.f10) spy_n4)) 12 spy_n39 ⟨[(2,.slice (some ⟨b,o,none⟩) n cp),(6,.bool false),(8,(pt pb 0)),(10,(pt g.qb 0)),(12,(pt sb 0)),(14,(pt sr 0)),(18,i6 (i:Int)),(19,(pt W10.heap.size 0)),(20,.bool true),(21,(pt z75 0))],(spy_b3 stripes xa pb g sb sr r W10 z75),[],W24.heap.size⟩ [(0,true,oh0),(1,true,oh0),(5,true,oh0),(6,true,oh0)]) = some (⟨[],dupR [],⟨[(2,.slice (some ⟨b,o,none⟩) n cp),(6,.bool false),(8,(pt pb 0)),(10,(pt g.qb 0)),(12,(pt sb 0)),(14,(pt sr 0)),(18,i6 (i:Int)),(19,(pt W10.heap.size 0)),(20,.bool true),(21,(pt z75 0)),(113,(pt sb 0)),(114,(pt W10.heap.size 1)),(118,(pt sr 0)),(119,(pt W10.heap.size 1))],(spy_b3 stripes xa pb g sb sr r W10 z75),[],W24.heap.size⟩⟩,8,spy_n41):=by kernel_rfl
def spy_83B (stripes:Int) (xa:Act8) (pb:Nat) (g:G7) (sb:Nat) (sr:Nat) (r:RecM) (W10:World) (z75:Nat):List Bk:=(spy_b3 stripes xa pb g sb sr r W10 z75)
def spy_83H0 (stripes:Int) (xa:Act8) (pb:Nat) (g:G7) (sb:Nat) (sr:Nat) (M:Pl) (r:RecM) (w:World) (W10:World) (J:Act → World → Prop) (z75:Nat) (m:Nat) (ls:Array Bool) (sl:List (Nat × Value)):Prop:=∀ Wd:World,PlatAt 90 94 Wd pb M ∧ RefAt 99 9 4 Wd g M → MemOk w (fun _=>False) (spy_83B stripes xa pb g sb sr r W10 z75) [] Wd.heap.size Wd → Holds [] Try.prog (bodyOf Try.f10) 222 Wd (Turned (spy_83B stripes xa pb g sb sr r W10 z75)) (bodyPost Try.prog Try.f10 (RetK (.bool true) w)) (.any spy_n4 m ls :: [.blk 2,.code spy_n15,.blk 1,.code spy_n16,.inv J,.blk 0,.code spy_n19]) ⟨sl,(spy_83B stripes xa pb g sb sr r W10 z75),[],Wd.heap.size⟩
def spy_83H1 (stripes:Int) (xa:Act8) (pb:Nat) (g:G7) (sb:Nat) (sr:Nat) (M:Pl) (r:RecM) (w:World) (W10:World) (J:Act → World → Prop) (z75:Nat) (m:Nat) (ls:Array Bool) (sl:List (Nat × Value)):Prop:=∀ Wd:World,PlatAt 90 94 Wd pb (setGP stripes M xa.stripe r) ∧ RefAt 99 9 4 Wd g M → MemOk w (fun _=>False) (spy_83B stripes xa pb g sb sr r W10 z75) [] Wd.heap.size Wd → Holds [] Try.prog (bodyOf Try.f10) 222 Wd (Turned (spy_83B stripes xa pb g sb sr r W10 z75)) (bodyPost Try.prog Try.f10 (RetK (.bool true) w)) (.any spy_n4 m ls :: [.blk 2,.code spy_n15,.blk 1,.code spy_n16,.inv J,.blk 0,.code spy_n19]) ⟨sl,(spy_83B stripes xa pb g sb sr r W10 z75),[],Wd.heap.size⟩
def spy_83H2 (stripes:Int) (xa:Act8) (pb:Nat) (g:G7) (sb:Nat) (sr:Nat) (M:Pl) (r:RecM) (w:World) (W10:World) (J:Act → World → Prop) (z75:Nat) (m:Nat) (ls:Array Bool) (sl:List (Nat × Value)):Prop:=∀ Wd:World,PlatAt 90 94 Wd pb (setGP stripes M xa.stripe r) ∧ RefAt 99 9 4 Wd g (setGP stripes M xa.stripe r) → MemOk w (fun _=>False) (spy_83B stripes xa pb g sb sr r W10 z75) [] Wd.heap.size Wd → Holds [] Try.prog (bodyOf Try.f10) 222 Wd (Turned (spy_83B stripes xa pb g sb sr r W10 z75)) (bodyPost Try.prog Try.f10 (RetK (.bool true) w)) (.any spy_n4 m ls :: [.blk 2,.code spy_n15,.blk 1,.code spy_n16,.inv J,.blk 0,.code spy_n19]) ⟨sl,(spy_83B stripes xa pb g sb sr r W10 z75),[],Wd.heap.size⟩
set_option maxRecDepth 100000 in
set_option maxHeartbeats 4000000 in
theorem plays_any (sectors stripes:Int) (A:Option Addr) (n cp:Nat) (acts:Nat → Act8) (hx1:I64 sectors) (w:World) (HR:Acts8At w A n acts) (HK:∀ k,k < n → ∃ kf,NumsAt w (acts k).ka (acts k).kn kf) :
  Calls Try.prog 10 #[.int .i64 sectors,.int .i64 stripes,.slice A n cp] w (RetK (.bool true) w):=by
 refine calls_of_holds (S:=(fun _=>False)) (l:=[.int .i64 sectors,.int .i64 stripes,.slice A n cp]) (n:=222) Try.func10 (body_of (by kernel_rfl)) rfl (by simp) (MemOk.none w _) ?_
 obtain ⟨B,hB⟩:∃ B,pickZ sectors 12 = B:=⟨_,rfl⟩
 have hBb:0 ≤ B ∧ B ≤ 11:=by
  have h:=pickZ_bd sectors 12 (by omega)
  rw [hB] at h
  omega
 obtain ⟨np,hnp⟩:∃ np:Nat,(np:Int) = 1 + B:=⟨(1 + B).toNat,by omega⟩
 have hnp1:1 ≤ np ∧ np ≤ 64:=by omega
 refine hgE 9 [oh0] [0,1,2,6] [] [] [.ops [1,0] [0,1],.code [1,1]] ⟨[(0,i6 sectors),(1,i6 stripes),(2,.slice A n cp),(6,.bool false)],[],[],w.heap.size⟩ ?_
 refine hcp (.bool true) 11 [] (some 27) [] tI rfl (fun wx hm=>awake8P wx) fun z2 hz2=>?_
 replace hz2:w.heap.size ≤ z2:=hz2
 refine hgE 8 [oh0,oh0] [0,1,2,6,7,29] [] [] [.ops [1,1,0] [1,2,3,4,5,6,7,8],.code [1,1,1]] ⟨[(0,i6 sectors),(1,i6 stripes),(2,.slice A n cp),(6,.bool false),(7,.bool true),(29,i6 sectors)],[],[],z2⟩ ?_
 refine hcp (i6 B) 19 [i6 sectors,i6 12] (some 30) [] tI rfl (fun wx hm=>pick8 _ _ _ hB wx (by omega) (by omega) hx1) fun z4 hz4=>?_
 replace hz4:z2 ≤ z4:=hz4
 refine hgE 4 [oh2] [0,1,2,6,7,31] [n64 ((1 + B))] [] [.ops [1,1,0] [3,4,5,6,7,8],.code [1,1,1]] ⟨[(0,i6 sectors),(1,i6 stripes),(2,.slice A n cp),(6,.bool false),(7,.bool true),(31,i6 (1 + B))],[],[],z4⟩ ?_
 refine holds_callW (w:=w) (S':=(fun _=>False)) (Y:=Nat × Nat × Nat) (fun (⟨lb,mb,pb⟩:Nat × Nat × Nat)=>.tuple #[(pt pb 0),i6 0]) (fun (⟨lb,mb,pb⟩:Nat × Nat × Nat)=>[]) (fun (⟨lb,mb,pb⟩:Nat × Nat × Nat) W_=>z4 ≤ lb ∧ lb < mb ∧ mb < pb ∧ PlatAt 90 94 W_ pb (newPl lb mb np)) (fun (⟨lb,mb,pb⟩:Nat × Nat × Nat)=>[(32,.tuple #[(pt pb 0),i6 0]),(0,i6 sectors),(1,i6 stripes),(2,.slice A n cp),(6,.bool false),(7,.bool true),(31,i6 (1 + B))]) (show _ = some (20,[i6 (1 + B)],some 32,[]) by kernel_rfl) tI (fun _=>rfl) (fun wx hm=>?_) (fun y W1 hX1 hm1=>?_)
 ·have h:=new_pl np hnp1 wx
  rw [hnp] at h
  refine h.mono fun e w' ⟨lb,mb,pb,he,h1,h2,h3,h4,h5⟩=>?_
  exact ⟨(lb,mb,pb),he,⟨by rw [hm.size] at h1; exact h1,h2,h3,h4⟩,(hm.same h5).2⟩
 obtain ⟨lb,mb,pb⟩:=y
 obtain ⟨hl1,hl2,hl3,hP1⟩:=hX1
 have hl4:=hP1.lt
 have hMi:∀ x,minePl pb (newPl lb mb np) x → w.heap.size ≤ x ∧ x < W1.heap.size:=by
  rintro x (h | h | h)
  ·omega
  ·have h9:x = lb:=h
   have h8:lb < W1.heap.size:=hl4.2.1
   omega
  ·have h9:x = mb:=h
   have h8:mb < W1.heap.size:=hl4.2.2
   omega
 refine hgE 12 [oh0,oh0,oh0,oh0,oh0,oh0] [1,2,6,7,8,36] [] [] [.ops [1,1,1,0] [1,2,3,4,5,6,7,8],.code [1,1,1,1]] ⟨[(1,i6 stripes),(2,.slice A n cp),(6,.bool false),(7,.bool true),(8,(pt pb 0)),(36,i6 sectors)],[],[],W1.heap.size⟩ ?_
 refine hcp (i6 B) 19 [i6 sectors,i6 12] (some 37) [] tI rfl (fun wx hm=>pick8 _ _ _ hB wx (by omega) (by omega) hx1) fun z8 hz8=>?_
 replace hz8:W1.heap.size ≤ z8:=hz8
 refine hgE 4 [oh2] [1,2,6,7,8,38] [n64 ((1 + B))] [] [.ops [1,1,1,0] [3,4,5,6,7,8],.code [1,1,1,1]] ⟨[(1,i6 stripes),(2,.slice A n cp),(6,.bool false),(7,.bool true),(8,(pt pb 0)),(38,i6 (1 + B))],[],[],z8⟩ ?_
 have hnT:∀ x,¬ Turned [] x:=by
  rintro x ⟨b,hb,hr,he⟩
  simp at hb
 refine holds_callW (w:=w) (S':=(fun _=>False)) (Y:=G7) (fun g=>.tuple #[(pt g.qb 0),i6 0]) (fun g=>[]) (fun g W_=>g.n = np ∧ g.Ok ∧ (∀ x,g.mine x → W1.heap.size ≤ x) ∧ PlatAt 90 94 W_ pb (newPl lb mb np) ∧ RefAt 99 9 4 W_ g (newPl lb mb np)) (fun g=>[(39,.tuple #[(pt g.qb 0),i6 0]),(1,i6 stripes),(2,.slice A n cp),(6,.bool false),(7,.bool true),(8,(pt pb 0)),(38,i6 (1 + B))]) (show _ = some (29,[i6 (1 + B)],some 39,[]) by kernel_rfl) tI (fun _=>rfl) (fun wx hm=>?_) (fun g W2 hX2 hm2=>?_)
 ·have h:=rnew_any np hnp1 wx
  rw [hnp] at h
  refine h.mono fun e w' ⟨g,he,h1,h2,h3,⟨R,h4,h5⟩,h6⟩=>?_
  have hsz:=hm.kept.size
  exact ⟨g,he,⟨h1,h2,fun x hx=>Nat.le_trans hsz (h3 x hx),(hP1.kept hm.kept (fun x _=>hnT x)).kept h6 (fun _ _ h=>h),R,h4,by rw [h1]; exact h5 lb mb⟩,((MemOk.back2 hm1 hm).same h6).2⟩
 clear hnT
 obtain ⟨hgn,hgk,hg0,hP2,hR2⟩:=hX2
 obtain ⟨zB,hzB⟩:∃ zB,zB = W2.heap.size:=⟨_,rfl⟩
 have hGi:∀ x,g.mine x → W1.heap.size ≤ x ∧ x < zB:=fun x hx=>⟨hg0 x hx,by rw [hzB]; exact hR2.lt x hx⟩
 have hAB:W1.heap.size ≤ zB:=by
  have h1:=hg0 g.qb (.inl rfl)
  have h2:=hR2.lt g.qb (.inl rfl)
  omega
 have hw1:=hm1.kept.size
 have hnT:∀ x,¬ Turned [] x:=by
  rintro x ⟨b,hb,hr,he⟩
  simp at hb
 refine hgE 25 [oh0,oh0,oh0,oh0,oh0,oh0,oh0,oh0,oh0,oh0,⟨false,3,[]⟩,oh0,oh0,oh0] [1,2,6,8,10,49,50] [fF,fF,fF,fF] [] [.ops [1,1,1,1,1,0] [2,3,4,5,6,7],.code [1,1,1,1,1,1]] ⟨[(1,i6 stripes),(2,.slice A n cp),(6,.bool false),(8,(pt pb 0)),(10,(pt g.qb 0)),(49,(pt pb 0)),(50,i6 stripes)],[],[],W2.heap.size⟩ ?_
 by_cases hst:1 ≤ stripes ∧ stripes ≤ 8 ∧ stripes ≤ (np:Int)
 rotate_left
 ·skip
  refine hcp (.tuple #[.pointer none,i6 1]) 21 [(pt pb 0),i6 stripes] (some 51) [] tI rfl (fun wx hm=>shelfNew_bad (newPl lb mb np) pb stripes hst wx (hP2.kept hm.kept (fun x _=>hnT x))) fun z12 hz12=>?_
  replace hz12:W2.heap.size ≤ z12:=hz12
  refine hgE 13 [oh0,oh0,oh0,oh0,oh0,oh0,oh0] [2,6,8,10,12,13,55,56] [] [] [.ops [1,1,1,1,1,1,0] [2,3,4,5,6,7],.code [1,1,1,1,1,1,1]] ⟨[(2,.slice A n cp),(6,.bool false),(8,(pt pb 0)),(10,(pt g.qb 0)),(12,.pointer none),(13,i6 1),(55,(pt g.qb 0)),(56,i6 stripes)],[],[],z12⟩ ?_
  refine hcp (.tuple #[.pointer none,i6 1]) 30 [(pt g.qb 0),i6 stripes] (some 57) [] tI rfl (fun wx hm=>rshelfNew_bad (newPl lb mb np) g stripes hst wx (hR2.kept hm.kept (fun x _=>hnT x))) fun z14 hz14=>?_
  replace hz14:z12 ≤ z14:=hz14
  refine hgE 11 [oh0,oh0,oh0,oh0,oh0] [2,6,8,10,12,13,14,15] [] [] [.ops [1,1,1,1,1,1,1,0] [0,1,2,3,4,5],.code [1,1,1,1,1,1,1,1]] ⟨[(2,.slice A n cp),(6,.bool false),(8,(pt pb 0)),(10,(pt g.qb 0)),(12,.pointer none),(13,i6 1),(14,.pointer none),(15,i6 1)],[],[],z14⟩ ?_
  refine hcp (.tuple #[.pointer none,i6 1]) 21 [.pointer none,i6 1] (some 61) [] tI rfl (fun wx hm=>shelfNew_nil wx) fun z16 hz16=>?_
  replace hz16:z14 ≤ z16:=hz16
  refine hgE 40 [oh0,oh0,oh0,oh0,oh0,oh0,oh0,oh0,oh0,oh0,oh0,oh0,oh0,oh0,⟨false,3,[]⟩,oh0,oh0,oh0,⟨false,3,[]⟩,oh0,oh0,oh0,oh1,oh0] [2,6,8,10,12,14] [fF,fF,fF,fF,fF,fF,fF,fF,fF,fF,tT] [] [.code [1,1,1,1,1,1,1,1,1,0,1,0,1],.code [1,1,1,1,1,1,1,1,1,1]] ⟨[(2,.slice A n cp),(6,.bool true),(8,(pt pb 0)),(10,(pt g.qb 0)),(12,.pointer none),(14,.pointer none)],[],[],z16⟩ ?_
  refine hrt [] [.bool true] [] ?_
  intro wx hm
  exact ⟨rfl,(MemOk.back2 hm2 hm).kept⟩
 refine holds_callW (w:=w) (S':=(fun _=>False)) (Y:=Nat) (fun sb=>.tuple #[(pt sb 0),i6 0]) (fun sb=>[⟨sb,92,false,[(pt pb 0),i6 stripes]⟩]) (fun sb W_=>W2.heap.size ≤ sb ∧ PlatAt 90 94 W_ pb (newPl lb mb np) ∧ RefAt 99 9 4 W_ g (newPl lb mb np)) (fun sb=>[(51,.tuple #[(pt sb 0),i6 0]),(1,i6 stripes),(2,.slice A n cp),(6,.bool false),(8,(pt pb 0)),(10,(pt g.qb 0)),(49,(pt pb 0)),(50,i6 stripes)]) (show _ = some (21,[(pt pb 0),i6 stripes],some 51,[]) by kernel_rfl) tI (fun _=>rfl) (fun wx hm=>?_) (fun sb W3 hX3 hm3=>?_)
 ·refine (shelfNew_st (newPl lb mb np) pb stripes (by omega) (by show stripes ≤ (np:Int); omega) wx (hP2.kept hm.kept (fun x _=>hnT x))).mono fun e w' ⟨s',he,h1,h2,h3⟩=>?_
  have hs:wx.heap.size = W2.heap.size:=hm.size
  exact ⟨s',he,⟨by omega,(hP2.kept hm.kept (fun x _=>hnT x)).kept h3 (fun _ _ h=>h),(hR2.kept hm.kept (fun x _=>hnT x)).kept h3 (fun _ _ h=>h)⟩,(MemOk.add (MemOk.back2 hm2 hm) h3 [⟨s',92,false,_⟩] ⟨h2,trivial⟩ (by simp; omega) (by simp)).2⟩
 obtain ⟨hz_sb,hP3,hR3⟩:=hX3
 have hw3:=hm3.kept.size
 have hb3:sb < W3.heap.size:=(hm3.at_ 0 rfl).lt
 clear hnT
 have hnT:∀ x,¬ Turned [⟨sb,92,false,[(pt pb 0),.int .i64 stripes]⟩] x:=by
  rintro x ⟨b,hb,hr,he⟩
  simp at hb
  subst hb
  simp at hr
 refine hgE 13 [oh0,oh0,oh0,oh0,oh0,oh0,oh0] [2,6,8,10,12,13,55,56] [] [] [.ops [1,1,1,1,1,1,0] [2,3,4,5,6,7],.code [1,1,1,1,1,1,1]] ⟨[(2,.slice A n cp),(6,.bool false),(8,(pt pb 0)),(10,(pt g.qb 0)),(12,(pt sb 0)),(13,i6 0),(55,(pt g.qb 0)),(56,i6 stripes)],[⟨sb,92,false,[(pt pb 0),i6 stripes]⟩],[],W3.heap.size⟩ ?_
 refine holds_callW (w:=w) (S':=(fun _=>False)) (Y:=Nat) (fun sr=>.tuple #[(pt sr 0),i6 0]) (fun sr=>(spy_b1 stripes pb g sb sr)) (fun sr W_=>W3.heap.size ≤ sr ∧ PlatAt 90 94 W_ pb (newPl lb mb np) ∧ RefAt 99 9 4 W_ g (newPl lb mb np)) (fun sr=>[(57,.tuple #[(pt sr 0),i6 0]),(2,.slice A n cp),(6,.bool false),(8,(pt pb 0)),(10,(pt g.qb 0)),(12,(pt sb 0)),(13,i6 0),(55,(pt g.qb 0)),(56,i6 stripes)]) (show _ = some (30,[(pt g.qb 0),i6 stripes],some 57,[]) by kernel_rfl) tI (fun _=>rfl) (fun wx hm=>?_) (fun sr W4 hX4 hm4=>?_)
 ·refine (rshelfNew_st (newPl lb mb np) g stripes ⟨by omega,by omega,by show stripes ≤ (np:Int); omega⟩ wx (hR3.kept hm.kept (fun x _=>hnT x))).mono fun e w' ⟨s',he,h1,h2,h3⟩=>?_
  have hs:wx.heap.size = W3.heap.size:=hm.size
  exact ⟨s',he,⟨by omega,(hP3.kept hm.kept (fun x _=>hnT x)).kept h3 (fun _ _ h=>h),(hR3.kept hm.kept (fun x _=>hnT x)).kept h3 (fun _ _ h=>h)⟩,(MemOk.add (MemOk.back2 hm3 hm) h3 [⟨s',102,false,_⟩] ⟨h2,trivial⟩ (by simp; omega) (by simp)).2⟩
 obtain ⟨hz_sr,hP4,hR4⟩:=hX4
 have hw4:=hm4.kept.size
 have hb4:sr < W4.heap.size:=(hm4.at_ 1 rfl).lt
 clear hnT
 have hnT:∀ x,¬ Turned (spy_b1 stripes pb g sb sr) x:=by
  rintro x ⟨b,hb,hr,he⟩
  simp at hb
  rcases hb with rfl | rfl <;> simp at hr
 refine hgE 11 [oh0,oh0,oh0,oh0,oh0] [2,6,8,10,12,13,14,15] [] [] [.ops [1,1,1,1,1,1,1,0] [0,1,2,3,4,5],.code [1,1,1,1,1,1,1,1]] ⟨[(2,.slice A n cp),(6,.bool false),(8,(pt pb 0)),(10,(pt g.qb 0)),(12,(pt sb 0)),(13,i6 0),(14,(pt sr 0)),(15,i6 0)],(spy_b1 stripes pb g sb sr),[],W4.heap.size⟩ ?_
 refine hcp (.tuple #[.pointer none,i6 1]) 21 [.pointer none,i6 1] (some 61) [] tI rfl (fun wx hm=>shelfNew_nil wx) fun z23 hz23=>?_
 replace hz23:W4.heap.size ≤ z23:=hz23
 refine hgE 43 [oh0,oh0,oh0,oh0,oh0,oh0,oh0,oh0,oh0,oh0,oh0,oh0,oh0,oh0,⟨false,3,[]⟩,oh0,oh0,oh0,⟨false,3,[]⟩,oh0,oh0,oh0,oh0,oh0] [2,6,8,10,12,14,18] [fF,fF,fF,fF,fF,fF,fF,fF,fF,fF,fF] [] [.code [1,1,1,1,1,1,1,1,1,1,0,1,0],.blk 0,.code spy_n19] ⟨[(2,.slice A n cp),(6,.bool false),(8,(pt pb 0)),(10,(pt g.qb 0)),(12,(pt sb 0)),(14,(pt sr 0)),(18,i6 0)],(spy_b1 stripes pb g sb sr),[],z23⟩ ?_
 have hzsb:zB ≤ sb:=by omega
 have hzsr:zB ≤ sr:=by omega
 refine holds_loopW (w:=w) (S':=fun _=>False) (PlaysI stripes A n cp np lb mb pb g sb sr) 60 (by kernel_rfl) (fun W5 hm=>⟨⟨0,(newPl lb mb np),_,rfl,rfl,rfl,by show (0:Int) ≤ _; omega,(hP4.kept hm.kept (fun x _=>hnT x)),(hR4.kept hm.kept (fun x _=>hnT x)),rfl⟩,MemOk.back2 hm4 hm⟩) ?_
 clear hP1 hP2 hP3 hP4 hR2 hR3 hR4 hnT hl4
 rintro m _ W10 ⟨i,M,z',hmi,hmn,hMn,hac,hP10,hR10,rfl⟩ hm10 J hJ
 rw [← hmn] at hMi
 have hw10:=hm10.kept.size
 have hb10:sb < W10.heap.size:=(hm10.at_ 0 rfl).lt
 have hc10:sr < W10.heap.size:=(hm10.at_ 1 rfl).lt
 have hok:=hP10.ok
 have hnT:∀ x,¬ Turned (spy_b1 stripes pb g sb sr) x:=by
  rintro x ⟨b,hb,hr,he⟩
  simp at hb
  rcases hb with rfl | rfl <;> simp at hr
 by_cases h1:i < n
 rotate_left
 ·skip
  refine hgE 20 [oh0,oh0,oh0,oh0,oh0,oh0,oh0,⟨false,3,[]⟩,oh0,oh0] [6,10,217] [dF (((i:Int):Int) < (n:Int)),dF (((i:Int):Int) < (n:Int)),dF (((i:Int):Int) < (n:Int)),fF] [] [.ops spy_n17 [1,2,3,4,5],.code spy_n18] ⟨[(6,.bool false),(10,(pt g.qb 0)),(217,(pt pb 0))],(spy_b1 stripes pb g sb sr),[],W10.heap.size⟩ ?_
  obtain ⟨R,hR,hS⟩:=hR10
  refine holds_callW (w:=w) (S':=(fun _=>False)) (Y:=Nat) (fun gi=>.slice (some ⟨gi,0,none⟩) np np) (fun gi=>(spy_b1 stripes pb g sb sr)) (fun gi W_=>Blk W_ gi 9 (M.last.map strV) ∧ RfAt 99 9 4 W_ g R) (fun gi=>[(218,.slice (some ⟨gi,0,none⟩) np np),(6,.bool false),(10,(pt g.qb 0)),(217,(pt pb 0))]) (show _ = some (44,[(pt pb 0)],some 218,[]) by kernel_rfl) tI (fun _=>rfl) (fun wx hm=>?_) (fun gi W20 hX20 hm20=>?_)
  ·refine (image_pl M pb wx (hP10.kept hm.kept (fun x _=>hnT x))).mono fun e w' ⟨gi,he,h1,h2,h3⟩=>?_
   rw [hMn] at he
   exact ⟨gi,he,⟨h2,(hR.kept hm.kept (fun x _=>hnT x)).kept h3 (fun _ _ h=>h)⟩,((MemOk.back2 hm10 hm).same h3).2⟩
  obtain ⟨hI20,hR20⟩:=hX20
  clear hnT
  have hnT:∀ x,¬ Turned (spy_b1 stripes pb g sb sr) x:=by
   rintro x ⟨b,hb,hr,he⟩
   simp at hb
   rcases hb with rfl | rfl <;> simp at hr
  refine hgE 4 [oh0] [6,218,219] [] [] [.ops spy_n17 [3,4,5],.code spy_n18] ⟨[(6,.bool false),(218,.slice (some ⟨gi,0,none⟩) np np),(219,(pt g.qb 0))],(spy_b1 stripes pb g sb sr),[],W20.heap.size⟩ ?_
  refine holds_callW (w:=w) (S':=(fun _=>False)) (Y:=Option Addr × Nat) (fun (⟨A2,cp2⟩:Option Addr × Nat)=>.slice A2 np cp2) (fun (⟨A2,cp2⟩:Option Addr × Nat)=>(spy_b1 stripes pb g sb sr)) (fun (⟨A2,cp2⟩:Option Addr × Nat) W_=>Blk W_ gi 9 (M.last.map strV) ∧ OwnR W_ w.heap.size 9 1 A2 np cp2 (strsV (R.sure.take np))) (fun (⟨A2,cp2⟩:Option Addr × Nat)=>[(220,.slice A2 np cp2),(6,.bool false),(218,.slice (some ⟨gi,0,none⟩) np np),(219,(pt g.qb 0))]) (show _ = some (45,[(pt g.qb 0)],some 220,[]) by kernel_rfl) tI (fun _=>rfl) (fun wx hm=>?_) (fun y W21 hX21 hm21=>?_)
  ·refine (rimage_any g hgk R wx (hR20.kept hm.kept (fun x _=>hnT x))).mono fun e w' ⟨A2,cp2,he,h1,h2⟩=>?_
   rw [hgn] at he h1
   have hsz:=(MemOk.back2 hm20 hm).kept.size
   exact ⟨(A2,cp2),he,⟨(hI20.kept hm.kept (hnT _)).kept h2 id,h1.below hsz⟩,((MemOk.back2 hm20 hm).same h2).2⟩
  obtain ⟨A2,cp2⟩:=y
  obtain ⟨hI21,hO21⟩:=hX21
  clear hnT
  have hnT:∀ x,¬ Turned (spy_b1 stripes pb g sb sr) x:=by
   rintro x ⟨b,hb,hr,he⟩
   simp at hb
   rcases hb with rfl | rfl <;> simp at hr
  rcases hO21.blk with ⟨_,h0,_⟩ | ⟨gj,rj,hA2,_,hB21,_⟩
  ·omega
  subst hA2
  refine hgE 3 [] [6,218,220] [] [] [.ops spy_n17 [4,5],.code spy_n18] ⟨[(6,.bool false),(218,.slice (some ⟨gi,0,none⟩) np np),(220,.slice (some ⟨gj,0,none⟩) np cp2)],(spy_b1 stripes pb g sb sr),[],W21.heap.size⟩ ?_
  refine hcp (.bool true) 43 [.slice (some ⟨gi,0,none⟩) np np,.slice (some ⟨gj,0,none⟩) np cp2] (some 221) [] tI rfl (fun wx hm=>texts6_same gi gj np cp2 np (by omega) (fun k=>getB R.sure k) wx (fun k hk=>by
   rw [Nat.zero_add,Nat.mul_one]
   refine (hI21.kept hm.kept (hnT _)).at_ ?_
   have h1:=hS.sure k (by omega)
   have h2:=hok.len
   have h3:k < M.last.length:=by omega
   rw [h1,List.getElem?_map,List.getElem?_eq_getElem h3]
   rfl) (fun k hk=>by
   rw [Nat.zero_add,Nat.mul_one]
   refine (hB21.kept hm.kept (hnT _)).at_ ?_
   have h3:k < R.sure.length:=by have:=hR.ls; omega
   rw [List.getElem?_append_left (by simp [strsV]; omega)]
   simp [strsV,getB,h3,hk])) fun z30 hz30=>?_
  replace hz30:W21.heap.size ≤ z30:=hz30
  refine hgE 5 [oh0] [6] [] [] [.code spy_n18] ⟨[(6,.bool true)],(spy_b1 stripes pb g sb sr),[],z30⟩ ?_
  refine hrt [] [.bool true] [] ?_
  intro wx hm
  exact ⟨rfl,(MemOk.back2 hm21 hm).kept⟩
 by_cases h2:i < 60
 rotate_left
 ·skip
  refine hgE 20 [oh0,oh0,oh0,oh0,oh0,oh1,oh1,oh3,oh0,oh0] [6,10,217] [dT (((i:Int):Int) < (n:Int)),dT (((i:Int):Int) < (n:Int)),dT (((i:Int):Int) < (n:Int)),dF (((i:Int):Int) < 60)] [] [.ops spy_n17 [1,2,3,4,5],.code spy_n18] ⟨[(6,.bool false),(10,(pt g.qb 0)),(217,(pt pb 0))],(spy_b1 stripes pb g sb sr),[],W10.heap.size⟩ ?_
  obtain ⟨R,hR,hS⟩:=hR10
  refine holds_callW (w:=w) (S':=(fun _=>False)) (Y:=Nat) (fun gi=>.slice (some ⟨gi,0,none⟩) np np) (fun gi=>(spy_b1 stripes pb g sb sr)) (fun gi W_=>Blk W_ gi 9 (M.last.map strV) ∧ RfAt 99 9 4 W_ g R) (fun gi=>[(218,.slice (some ⟨gi,0,none⟩) np np),(6,.bool false),(10,(pt g.qb 0)),(217,(pt pb 0))]) (show _ = some (44,[(pt pb 0)],some 218,[]) by kernel_rfl) tI (fun _=>rfl) (fun wx hm=>?_) (fun gi W20 hX20 hm20=>?_)
  ·refine (image_pl M pb wx (hP10.kept hm.kept (fun x _=>hnT x))).mono fun e w' ⟨gi,he,h1,h2,h3⟩=>?_
   rw [hMn] at he
   exact ⟨gi,he,⟨h2,(hR.kept hm.kept (fun x _=>hnT x)).kept h3 (fun _ _ h=>h)⟩,((MemOk.back2 hm10 hm).same h3).2⟩
  obtain ⟨hI20,hR20⟩:=hX20
  clear hnT
  have hnT:∀ x,¬ Turned (spy_b1 stripes pb g sb sr) x:=by
   rintro x ⟨b,hb,hr,he⟩
   simp at hb
   rcases hb with rfl | rfl <;> simp at hr
  refine hgE 4 [oh0] [6,218,219] [] [] [.ops spy_n17 [3,4,5],.code spy_n18] ⟨[(6,.bool false),(218,.slice (some ⟨gi,0,none⟩) np np),(219,(pt g.qb 0))],(spy_b1 stripes pb g sb sr),[],W20.heap.size⟩ ?_
  refine holds_callW (w:=w) (S':=(fun _=>False)) (Y:=Option Addr × Nat) (fun (⟨A2,cp2⟩:Option Addr × Nat)=>.slice A2 np cp2) (fun (⟨A2,cp2⟩:Option Addr × Nat)=>(spy_b1 stripes pb g sb sr)) (fun (⟨A2,cp2⟩:Option Addr × Nat) W_=>Blk W_ gi 9 (M.last.map strV) ∧ OwnR W_ w.heap.size 9 1 A2 np cp2 (strsV (R.sure.take np))) (fun (⟨A2,cp2⟩:Option Addr × Nat)=>[(220,.slice A2 np cp2),(6,.bool false),(218,.slice (some ⟨gi,0,none⟩) np np),(219,(pt g.qb 0))]) (show _ = some (45,[(pt g.qb 0)],some 220,[]) by kernel_rfl) tI (fun _=>rfl) (fun wx hm=>?_) (fun y W21 hX21 hm21=>?_)
  ·refine (rimage_any g hgk R wx (hR20.kept hm.kept (fun x _=>hnT x))).mono fun e w' ⟨A2,cp2,he,h1,h2⟩=>?_
   rw [hgn] at he h1
   have hsz:=(MemOk.back2 hm20 hm).kept.size
   exact ⟨(A2,cp2),he,⟨(hI20.kept hm.kept (hnT _)).kept h2 id,h1.below hsz⟩,((MemOk.back2 hm20 hm).same h2).2⟩
  obtain ⟨A2,cp2⟩:=y
  obtain ⟨hI21,hO21⟩:=hX21
  clear hnT
  have hnT:∀ x,¬ Turned (spy_b1 stripes pb g sb sr) x:=by
   rintro x ⟨b,hb,hr,he⟩
   simp at hb
   rcases hb with rfl | rfl <;> simp at hr
  rcases hO21.blk with ⟨_,h0,_⟩ | ⟨gj,rj,hA2,_,hB21,_⟩
  ·omega
  subst hA2
  refine hgE 3 [] [6,218,220] [] [] [.ops spy_n17 [4,5],.code spy_n18] ⟨[(6,.bool false),(218,.slice (some ⟨gi,0,none⟩) np np),(220,.slice (some ⟨gj,0,none⟩) np cp2)],(spy_b1 stripes pb g sb sr),[],W21.heap.size⟩ ?_
  refine hcp (.bool true) 43 [.slice (some ⟨gi,0,none⟩) np np,.slice (some ⟨gj,0,none⟩) np cp2] (some 221) [] tI rfl (fun wx hm=>texts6_same gi gj np cp2 np (by omega) (fun k=>getB R.sure k) wx (fun k hk=>by
   rw [Nat.zero_add,Nat.mul_one]
   refine (hI21.kept hm.kept (hnT _)).at_ ?_
   have h1:=hS.sure k (by omega)
   have h2:=hok.len
   have h3:k < M.last.length:=by omega
   rw [h1,List.getElem?_map,List.getElem?_eq_getElem h3]
   rfl) (fun k hk=>by
   rw [Nat.zero_add,Nat.mul_one]
   refine (hB21.kept hm.kept (hnT _)).at_ ?_
   have h3:k < R.sure.length:=by have:=hR.ls; omega
   rw [List.getElem?_append_left (by simp [strsV]; omega)]
   simp [strsV,getB,h3,hk])) fun z38 hz38=>?_
  replace hz38:W21.heap.size ≤ z38:=hz38
  refine hgE 5 [oh0] [6] [] [] [.code spy_n18] ⟨[(6,.bool true)],(spy_b1 stripes pb g sb sr),[],z38⟩ ?_
  refine hrt [] [.bool true] [] ?_
  intro wx hm
  exact ⟨rfl,(MemOk.back2 hm21 hm).kept⟩
 obtain ⟨hx,b,o,hA,hb,hc⟩:=HR i h1
 obtain ⟨kf,hkf⟩:=HK i h1
 subst hA
 generalize hxe:acts i = xa at hx hc hkf
 have hwz:zB ≤ W10.heap.size:=by omega
 refine holds_wins [⟨b,o + i * 14,xa.cells⟩] (fun _ y hy=>?_) ?_
 ·simp only [List.mem_cons,List.not_mem_nil,or_false] at hy
  subst hy
  exact ⟨hnT _,win_kept hb hc rfl hm10.kept id⟩
 refine hgE 37 [oh0,oh0,oh0,oh0,oh0,oh1,oh1,oh3,oh1,oh0,oh0,oh2,⟨false,0,[⟨true,0,0,14⟩]⟩,oh0,(oA 2 0 14),oh0,oh0,(oA 2 0 1)] [2,6,8,10,12,14,18,19,20,95] [dT (((i:Int):Int) < (n:Int)),dT (((i:Int):Int) < (n:Int)),dT (((i:Int):Int) < (n:Int)),dT (((i:Int):Int) < 60),oE ((0:Int) ≤ (i:Int) ∧ (i:Int) < ((n:Nat):Int))] [(b,o + i * 14,14),(W10.heap.size,0,14),(W10.heap.size,0,1)] [.ops [1,1,1,1,1,1,1,1,1,1,0,1,0,0,1,0,0,1,1,0,0] [2],.code [1,1,1,1,1,1,1,1,1,1,0,1,0,0,1,0,0,1,1,0,1],.code spy_n15,.blk 1,.code spy_n16,.inv J,.blk 0,.code spy_n19] ⟨[(2,.slice (some ⟨b,o,none⟩) n cp),(6,.bool false),(8,(pt pb 0)),(10,(pt g.qb 0)),(12,(pt sb 0)),(14,(pt sr 0)),(18,i6 (i:Int)),(19,(pt W10.heap.size 0)),(20,.bool true),(95,i6 xa.what)],(spy_b2 stripes xa pb g sb sr W10),[⟨b,o + i * 14,(spy_v1 xa)⟩],W10.heap.size + 1⟩ ?_
 obtain ⟨C,hC⟩:∃ C,pickZ xa.what 10 = C:=⟨_,rfl⟩
 have hCb:0 ≤ C ∧ C ≤ 9:=by
  have h:=pickZ_bd xa.what 10 (by omega)
  rw [hC] at h
  omega
 refine hcp (i6 C) 19 [i6 xa.what,i6 10] (some 96) [] tI rfl (fun wx hm=>pick8 _ _ _ hC wx (by omega) (by omega) hx.what) fun z42 hz42=>?_
 replace hz42:W10.heap.size + 1 ≤ z42:=hz42
 refine holds_wins [] (fun _ _ h=>by cases h) ?_
 refine holds_ground [true,true,true] rfl (fun W11 hm hmW'=>?_)
 have hP11:=(hP10.kept hm.kept (fun x _=>hnT x))
 have hR11:=(hR10.kept hm.kept (fun x _=>hnT x))
 have hm11:=MemOk.back2 hm10 hmW'
 have hw11:W10.heap.size < W11.heap.size:=(hm11.at_ 2 rfl).lt
 clear hm hmW' hnT
 have hnT:∀ x,x < zB → ¬ Turned (spy_b2 stripes xa pb g sb sr W10) x:=by
  rintro x hx ⟨b,hb,hr,he⟩
  simp at hb
  rcases hb with rfl | rfl | rfl <;> simp at he hr <;> omega
 have hnB:∀ b ∈ ((spy_b2 stripes xa pb g sb sr W10):List Bk),zB ≤ b.g:=by
  intro b hb
  simp at hb
  rcases hb with rfl | rfl | rfl <;> simp <;> omega
 suffices HX40:∀ (W50:World) (M2:Pl),minePl pb M2 = minePl pb M → M2.n = M.n → M2.acts ≤ M.acts + 16 → PlatAt 90 94 W50 pb M2 → RefAt 99 9 4 W50 g M2 → MemOk w (fun _=>False) (spy_b2 stripes xa pb g sb sr W10) [] W50.heap.size W50 → Holds [] Try.prog (bodyOf Try.f10) 222 W50 (Turned (spy_b2 stripes xa pb g sb sr W10)) (spy_Q w) [.ops spy_n11 spy_n1,.code spy_n14,.blk 1,.code spy_n16,.inv J,.blk 0,.code spy_n19] ⟨[(2,.slice (some ⟨b,o,none⟩) n cp),(6,.bool false),(8,(pt pb 0)),(10,(pt g.qb 0)),(12,(pt sb 0)),(14,(pt sr 0)),(18,.int .i64 (i:Int)),(19,(pt W10.heap.size 0)),(20,.bool true)],(spy_b2 stripes xa pb g sb sr W10),[],W50.heap.size⟩ by
  suffices HX23:Holds [] Try.prog (bodyOf Try.f10) 222 W11 (Turned (spy_b2 stripes xa pb g sb sr W10)) (spy_Q w) [.ops spy_n2 [0,1,2,3,4],.code spy_n5,.blk 2,.code spy_n15,.blk 1,.code spy_n16,.inv J,.blk 0,.code spy_n19] ⟨[(2,.slice (some ⟨b,o,none⟩) n cp),(6,.bool false),(8,(pt pb 0)),(10,(pt g.qb 0)),(12,(pt sb 0)),(14,(pt sr 0)),(18,.int .i64 (i:Int)),(19,(pt W10.heap.size 0)),(20,.bool true)],(spy_b2 stripes xa pb g sb sr W10),[],W11.heap.size⟩ by
   rcases (show C = 0 ∨ C = 1 ∨ C = 2 ∨ C = 3 ∨ C = 4 ∨ C = 5 ∨ C = 6 ∨ C = 7 ∨ C = 8 ∨ C = 9 by omega) with hCv | hCv | hCv | hCv | hCv | hCv | hCv | hCv | hCv | hCv
   ·skip
    refine hgE 16 [oh0,oh0,oh1,oh1] spy_n38 [oE ((C == 0) = true) (by rw [hCv]; rfl),oE ((C == 0) = true) (by rw [hCv]; rfl)] [] [.ops spy_n2 [0,1,2,3,4],.code spy_n5,.blk 2,.code spy_n15,.blk 1,.code spy_n16,.inv J,.blk 0,.code spy_n19] ⟨[(2,.slice (some ⟨b,o,none⟩) n cp),(6,.bool false),(8,(pt pb 0)),(10,(pt g.qb 0)),(12,(pt sb 0)),(14,(pt sr 0)),(18,i6 (i:Int)),(19,(pt W10.heap.size 0)),(20,.bool true)],(spy_b2 stripes xa pb g sb sr W10),[],W11.heap.size⟩ ?_
    exact HX23
   ·skip
    refine hgE 22 [oh0,oh0,oh0,oh0,oh0,oh1,oh1] spy_n38 [oE ((C == 0) = false) (by rw [hCv]; rfl),oE ((C == 1) = true) (by rw [hCv]; rfl),oE ((C == 1) = true) (by rw [hCv]; rfl)] [] [.ops spy_n2 [0,1,2,3,4],.code spy_n5,.blk 2,.code spy_n15,.blk 1,.code spy_n16,.inv J,.blk 0,.code spy_n19] ⟨[(2,.slice (some ⟨b,o,none⟩) n cp),(6,.bool false),(8,(pt pb 0)),(10,(pt g.qb 0)),(12,(pt sb 0)),(14,(pt sr 0)),(18,i6 (i:Int)),(19,(pt W10.heap.size 0)),(20,.bool true)],(spy_b2 stripes xa pb g sb sr W10),[],W11.heap.size⟩ ?_
    exact HX23
   ·skip
    refine hgE 28 [oh0,oh0,oh0,oh0,oh0,oh0,oh0,oh0,oh1,oh1] spy_n38 [oE ((C == 0) = false) (by rw [hCv]; rfl),oE ((C == 1) = false) (by rw [hCv]; rfl),oE ((C == 2) = true) (by rw [hCv]; rfl),oE ((C == 2) = true) (by rw [hCv]; rfl)] [] [.ops spy_n2 [0,1,2,3,4],.code spy_n5,.blk 2,.code spy_n15,.blk 1,.code spy_n16,.inv J,.blk 0,.code spy_n19] ⟨[(2,.slice (some ⟨b,o,none⟩) n cp),(6,.bool false),(8,(pt pb 0)),(10,(pt g.qb 0)),(12,(pt sb 0)),(14,(pt sr 0)),(18,i6 (i:Int)),(19,(pt W10.heap.size 0)),(20,.bool true)],(spy_b2 stripes xa pb g sb sr W10),[],W11.heap.size⟩ ?_
    exact HX23
   ·skip
    refine hgE 31 [oh0,oh0,oh0,oh0,oh0,oh0,oh0,oh0,oh0,oh0,oh0,oh1] spy_n38 [oE ((C == 0) = false) (by rw [hCv]; rfl),oE ((C == 1) = false) (by rw [hCv]; rfl),oE ((C == 2) = false) (by rw [hCv]; rfl),oE ((C == 3) = true) (by rw [hCv]; rfl)] [] [.ops spy_n2 [0,1,2,3,4],.code spy_n5,.blk 2,.code spy_n15,.blk 1,.code spy_n16,.inv J,.blk 0,.code spy_n19] ⟨[(2,.slice (some ⟨b,o,none⟩) n cp),(6,.bool false),(8,(pt pb 0)),(10,(pt g.qb 0)),(12,(pt sb 0)),(14,(pt sr 0)),(18,i6 (i:Int)),(19,(pt W10.heap.size 0)),(20,.bool true)],(spy_b2 stripes xa pb g sb sr W10),[],W11.heap.size⟩ ?_
    exact HX23
   ·skip
    obtain ⟨ns,hns⟩:∃ ns:Nat,(ns:Int) = stripes:=⟨stripes.toNat,by omega⟩
    refine hgE 37 [oh0,oh0,oh0,oh0,oh0,oh0,oh0,oh0,oh0,oh0,oh0,oh0,oh0,oh0,oh1,oh0] [2,6,8,10,12,14,18,19,20,126] [oE ((C == 0) = false) (by rw [hCv]; rfl),oE ((C == 1) = false) (by rw [hCv]; rfl),oE ((C == 2) = false) (by rw [hCv]; rfl),oE ((C == 3) = false) (by rw [hCv]; rfl),oE ((C == 4) = true) (by rw [hCv]; rfl)] [] [.ops spy_n6 [1,2,3,4,5],.blk 2,.code spy_n15,.blk 1,.code spy_n16,.inv J,.blk 0,.code spy_n19] ⟨[(2,.slice (some ⟨b,o,none⟩) n cp),(6,.bool false),(8,(pt pb 0)),(10,(pt g.qb 0)),(12,(pt sb 0)),(14,(pt sr 0)),(18,i6 (i:Int)),(19,(pt W10.heap.size 0)),(20,.bool true),(126,(pt sb 0))],(spy_b2 stripes xa pb g sb sr W10),[],W11.heap.size⟩ ?_
    refine holds_callW (w:=w) (S':=(fun _=>False)) (Y:=Nat) (fun _=>i6 ((fmtG M 0 ns).1)) (fun _=>(spy_b2 stripes xa pb g sb sr W10)) (fun _ W_=>PlatAt 90 94 W_ pb (fmtG M 0 ns).2 ∧ RefAt 99 9 4 W_ g M) (fun _=>[(127,i6 ((fmtG M 0 ns).1)),(2,.slice (some ⟨b,o,none⟩) n cp),(6,.bool false),(8,(pt pb 0)),(10,(pt g.qb 0)),(12,(pt sb 0)),(14,(pt sr 0)),(18,i6 (i:Int)),(19,(pt W10.heap.size 0)),(20,.bool true),(126,(pt sb 0))]) (show _ = some (25,[(pt sb 0)],some 127,[]) by kernel_rfl) tI (fun _=>rfl) (fun wx hm=>?_) (fun _ W12 hXW12 hm12=>?_)
    ·refine (formatG_pl M pb sb ns (by omega) (by omega) (by omega) (fun h=>by have:=(hMi _ h).2; omega) wx (hP11.kept hm.kept (fun x hx=>hnT x (Nat.lt_of_lt_of_le (hMi x hx).2 hAB))) (by have h:Blk wx sb 92 [(pt pb 0),.int .i64 stripes]:=hm.at_ 0 rfl; rw [← hns] at h; exact h)).mono fun e w' ⟨h1,h2,h3⟩=>?_
     exact ⟨0,h1,⟨h2,(hR11.kept hm.kept (fun x hx=>hnT x (hGi x hx).2)).kept h3 (fun x hx h=>by have h3:=(hMi _ h).2; have h4:=(hGi _ hx).1; omega)⟩,(MemOk.back2 hm11 hm).off (fun _ h=>h) h3 (fun x h=>.inr (hMi x h).1) (fun b hb h=>by have h4:=hnB b hb; have h5:=(hMi _ h).2; omega)⟩
    obtain ⟨hP12,hR12⟩:=hXW12
    refine hgE 4 [oh0] [2,6,8,10,12,14,18,19,20,127,128] [] [] [.ops spy_n6 [3,4,5],.blk 2,.code spy_n15,.blk 1,.code spy_n16,.inv J,.blk 0,.code spy_n19] ⟨[(2,.slice (some ⟨b,o,none⟩) n cp),(6,.bool false),(8,(pt pb 0)),(10,(pt g.qb 0)),(12,(pt sb 0)),(14,(pt sr 0)),(18,i6 (i:Int)),(19,(pt W10.heap.size 0)),(20,.bool true),(127,i6 ((fmtG M 0 ns).1)),(128,(pt sr 0))],(spy_b2 stripes xa pb g sb sr W10),[],W12.heap.size⟩ ?_
    refine holds_callW (w:=w) (S':=(fun _=>False)) (Y:=Nat) (fun _=>i6 ((fmtG M 0 ns).1)) (fun _=>(spy_b2 stripes xa pb g sb sr W10)) (fun _ W_=>PlatAt 90 94 W_ pb (fmtG M 0 ns).2 ∧ RefAt 99 9 4 W_ g (fmtG M 0 ns).2) (fun _=>[(129,i6 ((fmtG M 0 ns).1)),(2,.slice (some ⟨b,o,none⟩) n cp),(6,.bool false),(8,(pt pb 0)),(10,(pt g.qb 0)),(12,(pt sb 0)),(14,(pt sr 0)),(18,i6 (i:Int)),(19,(pt W10.heap.size 0)),(20,.bool true),(127,i6 ((fmtG M 0 ns).1)),(128,(pt sr 0))]) (show _ = some (32,[(pt sr 0)],some 129,[]) by kernel_rfl) tI (fun _=>rfl) (fun wx hm=>?_) (fun _ W13 hXW13 hm13=>?_)
    ·obtain ⟨Rd,hRd1,hRd2⟩:=hR12
     refine (rformatG_pl M g hgk pb sr ns hok (by omega) (by omega) (by omega) (fun h=>by have:=(hGi _ h).2; omega) wx ⟨Rd,(hRd1.kept hm.kept (fun x hx=>hnT x (hGi x hx).2)),hRd2⟩ (by have h:Blk wx sr 102 [(pt g.qb 0),.int .i64 stripes]:=hm.at_ 1 rfl; rw [← hns] at h; exact h)).mono fun e w' ⟨h1,h2,h3⟩=>?_
     exact ⟨0,h1,⟨(hP12.kept hm.kept (fun x hx=>hnT x (Nat.lt_of_lt_of_le (hMi x (by have h:=mine_fmtG pb ns M 0; rw [h] at hx; exact hx)).2 hAB))).kept h3 (fun x hx h=>by have h3:=(hMi _ (by have h:=mine_fmtG pb ns M 0; rw [h] at hx; exact hx)).2; have h4:=(hGi _ h).1; omega),h2⟩,(MemOk.back2 hm12 hm).off (fun _ h=>h) h3 (fun x h=>.inr (by have h4:=(hGi x h).1; omega)) (fun b hb h=>by have h4:=hnB b hb; have h5:=(hGi _ h).2; omega)⟩
    obtain ⟨hP13,hR13⟩:=hXW13
    refine hgE 9 [oh0,oh0] spy_n38 [] [] [.ops spy_n11 spy_n1,.code spy_n14,.blk 1,.code spy_n16,.inv J,.blk 0,.code spy_n19] ⟨[(2,.slice (some ⟨b,o,none⟩) n cp),(6,.bool false),(8,(pt pb 0)),(10,(pt g.qb 0)),(12,(pt sb 0)),(14,(pt sr 0)),(18,i6 (i:Int)),(19,(pt W10.heap.size 0)),(20,.bool (((fmtG M 0 ns).1) == ((fmtG M 0 ns).1)))],(spy_b2 stripes xa pb g sb sr W10),[],W13.heap.size⟩ ?_
    rw [show (((fmtG M 0 ns).1) == ((fmtG M 0 ns).1)) = true by simp]
    exact holds_ground [true,true,true] rfl (fun W hm hmW=>HX40 W (fmtG M 0 ns).2 (mine_fmtG pb ns M 0) (fmtG_n ns M 0) (by have h:=acts_fmtG ns M 0; omega) (hP13.kept hm.kept (fun x hx=>hnT x (Nat.lt_of_lt_of_le (hMi x (by have h:=mine_fmtG pb ns M 0; rw [h] at hx; exact hx)).2 hAB))) (hR13.kept hm.kept (fun x hx=>hnT x (hGi x hx).2)) (MemOk.back2 hm13 hmW))
   ·skip
    refine hgE 41 [oh0,oh0,oh0,oh0,oh0,oh0,oh0,oh0,oh0,oh0,oh0,oh0,oh0,oh0,oh0,oh0,oh0,oh1] spy_n38 [oE ((C == 0) = false) (by rw [hCv]; rfl),oE ((C == 1) = false) (by rw [hCv]; rfl),oE ((C == 2) = false) (by rw [hCv]; rfl),oE ((C == 3) = false) (by rw [hCv]; rfl),oE ((C == 4) = false) (by rw [hCv]; rfl),oE ((C == 5) = true) (by rw [hCv]; rfl)] [] [.code spy_n7,.blk 2,.code spy_n15,.blk 1,.code spy_n16,.inv J,.blk 0,.code spy_n19] ⟨[(2,.slice (some ⟨b,o,none⟩) n cp),(6,.bool false),(8,(pt pb 0)),(10,(pt g.qb 0)),(12,(pt sb 0)),(14,(pt sr 0)),(18,i6 (i:Int)),(19,(pt W10.heap.size 0)),(20,.bool true)],(spy_b2 stripes xa pb g sb sr W10),[],W11.heap.size⟩ ?_
    refine holds_anyStart (f:=10) (ls:=spy_n40) (by kernel_rfl) (by kernel_rfl) (by kernel_rfl) (by kernel_rfl) ?_
    refine holds_tail panicOk_body _ _ (spy_t53 stripes n cp xa i pb g sb sr b o W10 W11) trivial ?_
    suffices HZ54:∀ Wd:World,PlatAt 90 94 Wd pb (armPl M xa.nn) ∧ RefAt 99 9 4 Wd g (armPl M xa.nn) → MemOk w (fun _=>False) (spy_54B stripes xa pb g sb sr W10) [] Wd.heap.size Wd → Holds [] Try.prog (bodyOf Try.f10) 222 Wd (Turned (spy_b2 stripes xa pb g sb sr W10)) (spy_Q w) [.blk 2,.code spy_n15,.blk 1,.code spy_n16,.inv J,.blk 0,.code spy_n19] ⟨[(2,.slice (some ⟨b,o,none⟩) n cp),(6,.bool false),(8,(pt pb 0)),(10,(pt g.qb 0)),(12,(pt sb 0)),(14,(pt sr 0)),(18,.int .i64 (i:Int)),(19,(pt W10.heap.size 0)),(20,.bool ((armE xa.nn) == (armE xa.nn)))],(spy_b2 stripes xa pb g sb sr W10),[],Wd.heap.size⟩ by
     have hC54_1:∀ Wd:World,PlatAt 90 94 Wd pb (armPl M xa.nn) ∧ RefAt 99 9 4 Wd g M → MemOk w (fun _=>False) (spy_54B stripes xa pb g sb sr W10) [] Wd.heap.size Wd → ∀ wx,MemOk Wd (Turned (spy_54B stripes xa pb g sb sr W10)) (spy_54B stripes xa pb g sb sr W10) [] Wd.heap.size wx → Calls Try.prog 33 #[(pt g.qb 0),.int .i64 xa.nn] wx (fun e w'=>e = .returned (.int .i64 (armE xa.nn)) ∧ (PlatAt 90 94 w' pb (armPl M xa.nn) ∧ RefAt 99 9 4 w' g (armPl M xa.nn)) ∧ MemOk w (fun _=>False) (spy_54B stripes xa pb g sb sr W10) [] w'.heap.size w'):=by
      intro Wd hXd hmd wx hm
      obtain ⟨hPd,hRd⟩:=hXd
      obtain ⟨Rd,hRd1,hRd2⟩:=hRd
      refine (rarm_pl g hgk M pb Rd hok hRd2 (by omega) xa.nn wx (hRd1.kept hm.kept (fun x hx=>hnT x (hGi x hx).2))).mono fun e w' ⟨h1,h2,h3⟩=>?_
      exact ⟨h1,⟨(hPd.kept hm.kept (fun x hx=>hnT x (Nat.lt_of_lt_of_le (hMi x (by have h:=mine_arm M pb xa.nn; rw [h] at hx; exact hx)).2 hAB))).kept h3 (fun x hx h=>by have h3:=(hMi _ (by have h:=mine_arm M pb xa.nn; rw [h] at hx; exact hx)).2; have h4:=(hGi _ h).1; omega),h2⟩,(MemOk.back2 hmd hm).off (fun _ h=>h) h3 (fun x h=>.inr (by have h4:=(hGi x h).1; omega)) (fun b hb h=>by have h4:=hnB b hb; have h5:=(hGi _ h).2; omega)⟩
     have hC54_0:∀ Wd:World,PlatAt 90 94 Wd pb M ∧ RefAt 99 9 4 Wd g M → MemOk w (fun _=>False) (spy_54B stripes xa pb g sb sr W10) [] Wd.heap.size Wd → ∀ wx,MemOk Wd (Turned (spy_54B stripes xa pb g sb sr W10)) (spy_54B stripes xa pb g sb sr W10) [] Wd.heap.size wx → Calls Try.prog 26 #[(pt pb 0),.int .i64 xa.nn] wx (fun e w'=>e = .returned (.int .i64 (armE xa.nn)) ∧ (PlatAt 90 94 w' pb (armPl M xa.nn) ∧ RefAt 99 9 4 w' g M) ∧ MemOk w (fun _=>False) (spy_54B stripes xa pb g sb sr W10) [] w'.heap.size w'):=by
      intro Wd hXd hmd wx hm
      obtain ⟨hPd,hRd⟩:=hXd
      refine (arm_pl M pb xa.nn wx (hPd.kept hm.kept (fun x hx=>hnT x (Nat.lt_of_lt_of_le (hMi x hx).2 hAB)))).mono fun e w' ⟨h1,h2,h3⟩=>?_
      exact ⟨h1,⟨h2,(hRd.kept hm.kept (fun x hx=>hnT x (hGi x hx).2)).kept h3 (fun x hx h=>by have h3:=(hMi _ h).2; have h4:=(hGi _ hx).1; omega)⟩,(MemOk.back2 hmd hm).off (fun _ h=>h) h3 (fun x h=>.inr (hMi x h).1) (fun b hb h=>by have h4:=hnB b hb; have h5:=(hMi _ h).2; omega)⟩
     have A54_0:spy_54H2 stripes xa pb g sb sr M w W10 J 0 spy_n72 [(2,.slice (some ⟨b,o,none⟩) n cp),(6,.bool false),(8,(pt pb 0)),(10,(pt g.qb 0)),(12,(pt sb 0)),(14,(pt sr 0)),(18,i6 (i:Int)),(19,(pt W10.heap.size 0)),(20,.bool ((armE xa.nn) == (armE xa.nn)))]:=by
      intro Wd hXd hmd
      exact holds_done (by kernel_rfl) (HZ54 Wd hXd hmd)
     have A54_1:spy_54H2 stripes xa pb g sb sr M w W10 J 1 spy_n68 [(2,.slice (some ⟨b,o,none⟩) n cp),(6,.bool false),(8,(pt pb 0)),(10,(pt g.qb 0)),(12,(pt sb 0)),(14,(pt sr 0)),(18,i6 (i:Int)),(19,(pt W10.heap.size 0)),(20,.bool true),(141,.bool ((armE xa.nn) == (armE xa.nn)))]:=by
      intro Wd hXd hmd
      exact holds_anyAll (l:=[9]) (by kernel_rfl) (by simp) ⟨eop spy_n72 oh0 spy_n38 [] [] ⟨[(2,.slice (some ⟨b,o,none⟩) n cp),(6,.bool false),(8,(pt pb 0)),(10,(pt g.qb 0)),(12,(pt sb 0)),(14,(pt sr 0)),(18,i6 (i:Int)),(19,(pt W10.heap.size 0)),(20,.bool ((armE xa.nn) == (armE xa.nn)))],(spy_54B stripes xa pb g sb sr W10),[],Wd.heap.size⟩ tI (A54_0 Wd hXd hmd),tI⟩
     have A54_2:spy_54H2 stripes xa pb g sb sr M w W10 J 2 spy_n66 [(2,.slice (some ⟨b,o,none⟩) n cp),(6,.bool false),(8,(pt pb 0)),(10,(pt g.qb 0)),(12,(pt sb 0)),(14,(pt sr 0)),(18,i6 (i:Int)),(19,(pt W10.heap.size 0)),(20,.bool true),(136,i6 (armE xa.nn)),(140,i6 (armE xa.nn))]:=by
      intro Wd hXd hmd
      exact holds_anyAll (l:=[8]) (by kernel_rfl) (by simp) ⟨eop spy_n68 oh0 [2,6,8,10,12,14,18,19,20,141] [] [] ⟨[(2,.slice (some ⟨b,o,none⟩) n cp),(6,.bool false),(8,(pt pb 0)),(10,(pt g.qb 0)),(12,(pt sb 0)),(14,(pt sr 0)),(18,i6 (i:Int)),(19,(pt W10.heap.size 0)),(20,.bool true),(141,.bool ((armE xa.nn) == (armE xa.nn)))],(spy_54B stripes xa pb g sb sr W10),[],Wd.heap.size⟩ tI (A54_1 Wd hXd hmd),tI⟩
     have A54_3:spy_54H1 stripes xa pb g sb sr M w W10 J 3 spy_n63 [(2,.slice (some ⟨b,o,none⟩) n cp),(6,.bool false),(8,(pt pb 0)),(10,(pt g.qb 0)),(12,(pt sb 0)),(14,(pt sr 0)),(18,i6 (i:Int)),(19,(pt W10.heap.size 0)),(20,.bool true),(136,i6 (armE xa.nn)),(137,(pt g.qb 0)),(139,i6 xa.nn)]:=by
      intro Wd hXd hmd
      exact holds_anyAll (l:=[7]) (by kernel_rfl) (by simp) ⟨edge_callW (w:=w) (S':=(fun _=>False)) (ls':=spy_n66) (i6 (armE xa.nn)) [2,6,8,10,12,14,18,19,20,136,140] (fun W_=>PlatAt 90 94 W_ pb (armPl M xa.nn) ∧ RefAt 99 9 4 W_ g (armPl M xa.nn)) (by kernel_rfl) (show _ = some (33,[(pt g.qb 0),i6 xa.nn],some 140,[]) by kernel_rfl) tI rfl rfl (hC54_1 Wd hXd hmd) (fun W_ hX_ hm_=>A54_2 W_ hX_ hm_),tI⟩
     have A54_4:spy_54H1 stripes xa pb g sb sr M w W10 J 4 spy_n61 [(2,.slice (some ⟨b,o,none⟩) n cp),(6,.bool false),(8,(pt pb 0)),(10,(pt g.qb 0)),(12,(pt sb 0)),(14,(pt sr 0)),(18,i6 (i:Int)),(19,(pt W10.heap.size 0)),(20,.bool true),(136,i6 (armE xa.nn)),(137,(pt g.qb 0)),(138,(pt W10.heap.size 2))]:=by
      intro Wd hXd hmd
      exact holds_anyAll (l:=[6]) (by kernel_rfl) (by simp) ⟨eop spy_n63 (oA 2 2 1) [2,6,8,10,12,14,18,19,20,136,137,139] [] [(W10.heap.size,2,1)] ⟨[(2,.slice (some ⟨b,o,none⟩) n cp),(6,.bool false),(8,(pt pb 0)),(10,(pt g.qb 0)),(12,(pt sb 0)),(14,(pt sr 0)),(18,i6 (i:Int)),(19,(pt W10.heap.size 0)),(20,.bool true),(136,i6 (armE xa.nn)),(137,(pt g.qb 0)),(139,i6 xa.nn)],(spy_54B stripes xa pb g sb sr W10),[],Wd.heap.size⟩ tI (A54_3 Wd hXd hmd),tI⟩
     have A54_5:spy_54H0 stripes xa pb g sb sr M w W10 J 4 spy_n56 [(2,.slice (some ⟨b,o,none⟩) n cp),(6,.bool false),(8,(pt pb 0)),(10,(pt g.qb 0)),(12,(pt sb 0)),(14,(pt sr 0)),(18,i6 (i:Int)),(19,(pt W10.heap.size 0)),(20,.bool true),(133,(pt pb 0)),(135,i6 xa.nn),(137,(pt g.qb 0)),(139,i6 xa.nn)]:=by
      intro Wd hXd hmd
      exact holds_anyAll (l:=[3]) (by kernel_rfl) (by simp) ⟨edge_callW (w:=w) (S':=(fun _=>False)) (ls':=spy_n63) (i6 (armE xa.nn)) [2,6,8,10,12,14,18,19,20,136,137,139] (fun W_=>PlatAt 90 94 W_ pb (armPl M xa.nn) ∧ RefAt 99 9 4 W_ g M) (by kernel_rfl) (show _ = some (26,[(pt pb 0),i6 xa.nn],some 136,[]) by kernel_rfl) tI rfl rfl (hC54_0 Wd hXd hmd) (fun W_ hX_ hm_=>A54_3 W_ hX_ hm_),tI⟩
     have A54_6:spy_54H0 stripes xa pb g sb sr M w W10 J 5 spy_n55 [(2,.slice (some ⟨b,o,none⟩) n cp),(6,.bool false),(8,(pt pb 0)),(10,(pt g.qb 0)),(12,(pt sb 0)),(14,(pt sr 0)),(18,i6 (i:Int)),(19,(pt W10.heap.size 0)),(20,.bool true),(133,(pt pb 0)),(135,i6 xa.nn),(137,(pt g.qb 0)),(138,(pt W10.heap.size 2))]:=by
      intro Wd hXd hmd
      exact holds_anyAll (l:=[3,6]) (by kernel_rfl) (by simp) ⟨edge_callW (w:=w) (S':=(fun _=>False)) (ls':=spy_n61) (i6 (armE xa.nn)) [2,6,8,10,12,14,18,19,20,136,137,138] (fun W_=>PlatAt 90 94 W_ pb (armPl M xa.nn) ∧ RefAt 99 9 4 W_ g M) (by kernel_rfl) (show _ = some (26,[(pt pb 0),i6 xa.nn],some 136,[]) by kernel_rfl) tI rfl rfl (hC54_0 Wd hXd hmd) (fun W_ hX_ hm_=>A54_4 W_ hX_ hm_),eop spy_n56 (oA 2 2 1) spy_n26 [] [(W10.heap.size,2,1)] ⟨[(2,.slice (some ⟨b,o,none⟩) n cp),(6,.bool false),(8,(pt pb 0)),(10,(pt g.qb 0)),(12,(pt sb 0)),(14,(pt sr 0)),(18,i6 (i:Int)),(19,(pt W10.heap.size 0)),(20,.bool true),(133,(pt pb 0)),(135,i6 xa.nn),(137,(pt g.qb 0)),(139,i6 xa.nn)],(spy_54B stripes xa pb g sb sr W10),[],Wd.heap.size⟩ tI (A54_5 Wd hXd hmd),tI⟩
     have A54_7:spy_54H0 stripes xa pb g sb sr M w W10 J 5 spy_n46 [(2,.slice (some ⟨b,o,none⟩) n cp),(6,.bool false),(8,(pt pb 0)),(10,(pt g.qb 0)),(12,(pt sb 0)),(14,(pt sr 0)),(18,i6 (i:Int)),(19,(pt W10.heap.size 0)),(20,.bool true),(133,(pt pb 0)),(134,(pt W10.heap.size 2)),(137,(pt g.qb 0)),(139,i6 xa.nn)]:=by
      intro Wd hXd hmd
      exact holds_anyAll (l:=[2]) (by kernel_rfl) (by simp) ⟨eop spy_n56 (oA 2 2 1) spy_n26 [] [(W10.heap.size,2,1)] ⟨[(2,.slice (some ⟨b,o,none⟩) n cp),(6,.bool false),(8,(pt pb 0)),(10,(pt g.qb 0)),(12,(pt sb 0)),(14,(pt sr 0)),(18,i6 (i:Int)),(19,(pt W10.heap.size 0)),(20,.bool true),(133,(pt pb 0)),(135,i6 xa.nn),(137,(pt g.qb 0)),(139,i6 xa.nn)],(spy_54B stripes xa pb g sb sr W10),[],Wd.heap.size⟩ tI (A54_5 Wd hXd hmd),tI⟩
     have A54_8:spy_54H0 stripes xa pb g sb sr M w W10 J 6 spy_n45 [(2,.slice (some ⟨b,o,none⟩) n cp),(6,.bool false),(8,(pt pb 0)),(10,(pt g.qb 0)),(12,(pt sb 0)),(14,(pt sr 0)),(18,i6 (i:Int)),(19,(pt W10.heap.size 0)),(20,.bool true),(133,(pt pb 0)),(134,(pt W10.heap.size 2)),(137,(pt g.qb 0)),(138,(pt W10.heap.size 2))]:=by
      intro Wd hXd hmd
      exact holds_anyAll (l:=[2,6]) (by kernel_rfl) (by simp) ⟨eop spy_n55 (oA 2 2 1) [2,6,8,10,12,14,18,19,20,133,135,137,138] [] [(W10.heap.size,2,1)] ⟨[(2,.slice (some ⟨b,o,none⟩) n cp),(6,.bool false),(8,(pt pb 0)),(10,(pt g.qb 0)),(12,(pt sb 0)),(14,(pt sr 0)),(18,i6 (i:Int)),(19,(pt W10.heap.size 0)),(20,.bool true),(133,(pt pb 0)),(135,i6 xa.nn),(137,(pt g.qb 0)),(138,(pt W10.heap.size 2))],(spy_54B stripes xa pb g sb sr W10),[],Wd.heap.size⟩ tI (A54_6 Wd hXd hmd),eop spy_n46 (oA 2 2 1) [2,6,8,10,12,14,18,19,20,133,134,137,139] [] [(W10.heap.size,2,1)] ⟨[(2,.slice (some ⟨b,o,none⟩) n cp),(6,.bool false),(8,(pt pb 0)),(10,(pt g.qb 0)),(12,(pt sb 0)),(14,(pt sr 0)),(18,i6 (i:Int)),(19,(pt W10.heap.size 0)),(20,.bool true),(133,(pt pb 0)),(134,(pt W10.heap.size 2)),(137,(pt g.qb 0)),(139,i6 xa.nn)],(spy_54B stripes xa pb g sb sr W10),[],Wd.heap.size⟩ tI (A54_7 Wd hXd hmd),tI⟩
     exact A54_8 W11 ⟨hP11,hR11⟩ hm11
    intro W14 hXW14 hmW14
    obtain ⟨hP14,hR14⟩:=hXW14
    have hm14:=hmW14
    refine hgE 6 [] spy_n38 [] [] [.ops spy_n11 spy_n1,.code spy_n14,.blk 1,.code spy_n16,.inv J,.blk 0,.code spy_n19] ⟨[(2,.slice (some ⟨b,o,none⟩) n cp),(6,.bool false),(8,(pt pb 0)),(10,(pt g.qb 0)),(12,(pt sb 0)),(14,(pt sr 0)),(18,i6 (i:Int)),(19,(pt W10.heap.size 0)),(20,.bool ((armE xa.nn) == (armE xa.nn)))],(spy_b2 stripes xa pb g sb sr W10),[],W14.heap.size⟩ ?_
    rw [show ((armE xa.nn) == (armE xa.nn)) = true by simp]
    exact holds_ground [true,true,true] rfl (fun W hm hmW=>HX40 W (armPl M xa.nn) (mine_arm M pb xa.nn) ((arm_n M xa.nn).1) (by rw [(arm_n M xa.nn).2]; omega) (hP14.kept hm.kept (fun x hx=>hnT x (Nat.lt_of_lt_of_le (hMi x (by have h:=mine_arm M pb xa.nn; rw [h] at hx; exact hx)).2 hAB))) (hR14.kept hm.kept (fun x hx=>hnT x (hGi x hx).2)) (MemOk.back2 hm14 hmW))
   ·skip
    refine hgE 52 [oh0,oh0,oh0,oh0,oh0,oh0,oh0,oh0,oh0,oh0,oh0,oh0,oh0,oh0,oh0,oh0,oh0,oh0,oh0,oh0,oh1,oh0,oh0,(oA 2 13 1)] [2,6,8,10,12,14,18,19,20,144,146] [oE ((C == 0) = false) (by rw [hCv]; rfl),oE ((C == 1) = false) (by rw [hCv]; rfl),oE ((C == 2) = false) (by rw [hCv]; rfl),oE ((C == 3) = false) (by rw [hCv]; rfl),oE ((C == 4) = false) (by rw [hCv]; rfl),oE ((C == 5) = false) (by rw [hCv]; rfl),oE ((C == 6) = true) (by rw [hCv]; rfl)] [(W10.heap.size,13,1)] [.ops [1,1,1,1,1,1,1,1,1,1,0,1,0,0,1,0,0,1,1,0,1,0,1,1,1,1,1,1,1,0,0] [3],.code spy_n8,.blk 2,.code spy_n15,.blk 1,.code spy_n16,.inv J,.blk 0,.code spy_n19] ⟨[(2,.slice (some ⟨b,o,none⟩) n cp),(6,.bool false),(8,(pt pb 0)),(10,(pt g.qb 0)),(12,(pt sb 0)),(14,(pt sr 0)),(18,i6 (i:Int)),(19,(pt W10.heap.size 0)),(20,.bool true),(144,(pt pb 0)),(146,.slice xa.ka xa.kn xa.kc)],(spy_b2 stripes xa pb g sb sr W10),[],W11.heap.size⟩ ?_
    refine holds_callW (w:=w) (S':=(fun _=>False)) (Y:=Nat) (fun _=>.tuple #[]) (fun _=>(spy_b2 stripes xa pb g sb sr W10)) (fun _ W_=>PlatAt 90 94 W_ pb (restartPl M (keepB xa.kn kf)) ∧ RefAt 99 9 4 W_ g M) (fun _=>[(147,.tuple #[]),(2,.slice (some ⟨b,o,none⟩) n cp),(6,.bool false),(8,(pt pb 0)),(10,(pt g.qb 0)),(12,(pt sb 0)),(14,(pt sr 0)),(18,i6 (i:Int)),(19,(pt W10.heap.size 0)),(20,.bool true),(144,(pt pb 0)),(146,.slice xa.ka xa.kn xa.kc)]) (show _ = some (28,[(pt pb 0),.slice xa.ka xa.kn xa.kc],some 147,[]) by kernel_rfl) tI (fun _=>rfl) (fun wx hm=>?_) (fun _ W15 hXW15 hm15=>?_)
    ·refine (restart_pl M pb xa.ka xa.kn xa.kc kf wx (hP11.kept hm.kept (fun x hx=>hnT x (Nat.lt_of_lt_of_le (hMi x hx).2 hAB))) (fun k hk=>by obtain ⟨_,b,o,hA,hb,hc⟩:=hkf k hk; have hq:=MemOk.back2 hm11 hm; exact ⟨b,o,hA,Nat.lt_of_lt_of_le hb hq.kept.size,fun hx=>(by have h3:=(hMi _ hx).1; omega),(hq.kept.cell (p:=⟨b,o + k * 1 + 0,none⟩) hb id).trans (hc 0 (by omega))⟩)).mono fun e w' ⟨h1,h2,h3⟩=>?_
     exact ⟨0,h1,⟨h2,(hR11.kept hm.kept (fun x hx=>hnT x (hGi x hx).2)).kept h3 (fun x hx h=>by have h3:=(hMi _ h).2; have h4:=(hGi _ hx).1; omega)⟩,(MemOk.back2 hm11 hm).off (fun _ h=>h) h3 (fun x h=>.inr (hMi x h).1) (fun b hb h=>by have h4:=hnB b hb; have h5:=(hMi _ h).2; omega)⟩
    obtain ⟨hP15,hR15⟩:=hXW15
    refine hgE 8 [oh0,oh0,(oA 2 13 1)] [2,6,8,10,12,14,18,19,20,148,150] [] [(W10.heap.size,13,1)] [.ops spy_n8 [3],.blk 2,.code spy_n15,.blk 1,.code spy_n16,.inv J,.blk 0,.code spy_n19] ⟨[(2,.slice (some ⟨b,o,none⟩) n cp),(6,.bool false),(8,(pt pb 0)),(10,(pt g.qb 0)),(12,(pt sb 0)),(14,(pt sr 0)),(18,i6 (i:Int)),(19,(pt W10.heap.size 0)),(20,.bool true),(148,(pt g.qb 0)),(150,.slice xa.ka xa.kn xa.kc)],(spy_b2 stripes xa pb g sb sr W10),[],W15.heap.size⟩ ?_
    refine holds_callW (w:=w) (S':=(fun _=>False)) (Y:=Nat) (fun _=>.tuple #[]) (fun _=>(spy_b2 stripes xa pb g sb sr W10)) (fun _ W_=>PlatAt 90 94 W_ pb (restartPl M (keepB xa.kn kf)) ∧ RefAt 99 9 4 W_ g (restartPl M (keepB xa.kn kf))) (fun _=>[(151,.tuple #[]),(2,.slice (some ⟨b,o,none⟩) n cp),(6,.bool false),(8,(pt pb 0)),(10,(pt g.qb 0)),(12,(pt sb 0)),(14,(pt sr 0)),(18,i6 (i:Int)),(19,(pt W10.heap.size 0)),(20,.bool true),(148,(pt g.qb 0)),(150,.slice xa.ka xa.kn xa.kc)]) (show _ = some (34,[(pt g.qb 0),.slice xa.ka xa.kn xa.kc],some 151,[]) by kernel_rfl) tI (fun _=>rfl) (fun wx hm=>?_) (fun _ W16 hXW16 hm16=>?_)
    ·obtain ⟨Rd,hRd1,hRd2⟩:=hR15
     refine (rrestart_pl g hgk M pb Rd hok hRd2 xa.ka xa.kn xa.kc kf wx (hRd1.kept hm.kept (fun x hx=>hnT x (hGi x hx).2)) (fun k hk=>by obtain ⟨_,b,o,hA,hb,hc⟩:=hkf k hk; have hq:=MemOk.back2 hm15 hm; exact ⟨b,o,hA,Nat.lt_of_lt_of_le hb hq.kept.size,fun hx=>(by have h3:=(hGi _ hx).1; omega),(hq.kept.cell (p:=⟨b,o + k * 1 + 0,none⟩) hb id).trans (hc 0 (by omega))⟩)).mono fun e w' ⟨h1,h2,h3⟩=>?_
     exact ⟨0,h1,⟨(hP15.kept hm.kept (fun x hx=>hnT x (Nat.lt_of_lt_of_le (hMi x hx).2 hAB))).kept h3 (fun x hx h=>by have h3:=(hMi _ hx).2; have h4:=(hGi _ h).1; omega),h2⟩,(MemOk.back2 hm15 hm).off (fun _ h=>h) h3 (fun x h=>.inr (by have h4:=(hGi x h).1; omega)) (fun b hb h=>by have h4:=hnB b hb; have h5:=(hGi _ h).2; omega)⟩
    obtain ⟨hP16,hR16⟩:=hXW16
    refine hgE 7 [] spy_n38 [] [] [.ops spy_n11 spy_n1,.code spy_n14,.blk 1,.code spy_n16,.inv J,.blk 0,.code spy_n19] ⟨[(2,.slice (some ⟨b,o,none⟩) n cp),(6,.bool false),(8,(pt pb 0)),(10,(pt g.qb 0)),(12,(pt sb 0)),(14,(pt sr 0)),(18,i6 (i:Int)),(19,(pt W10.heap.size 0)),(20,.bool true)],(spy_b2 stripes xa pb g sb sr W10),[],W16.heap.size⟩ ?_
    exact holds_ground [true,true,true] rfl (fun W hm hmW=>HX40 W (restartPl M (keepB xa.kn kf)) (rfl) (rfl) (by show M.acts ≤ _; omega) (hP16.kept hm.kept (fun x hx=>hnT x (Nat.lt_of_lt_of_le (hMi x hx).2 hAB))) (hR16.kept hm.kept (fun x hx=>hnT x (hGi x hx).2)) (MemOk.back2 hm16 hmW))
   ·skip
    refine hgE 56 [oh0,oh0,oh0,oh0,oh0,oh0,oh0,oh0,oh0,oh0,oh0,oh0,oh0,oh0,oh0,oh0,oh0,oh0,oh0,oh0,oh0,oh0,oh0,oh1,oh0] [2,6,8,10,12,14,18,19,20,154] [oE ((C == 0) = false) (by rw [hCv]; rfl),oE ((C == 1) = false) (by rw [hCv]; rfl),oE ((C == 2) = false) (by rw [hCv]; rfl),oE ((C == 3) = false) (by rw [hCv]; rfl),oE ((C == 4) = false) (by rw [hCv]; rfl),oE ((C == 5) = false) (by rw [hCv]; rfl),oE ((C == 6) = false) (by rw [hCv]; rfl),oE ((C == 7) = true) (by rw [hCv]; rfl)] [] [.ops [1,1,1,1,1,1,1,1,1,1,0,1,0,0,1,0,0,1,1,0,1,0,1,1,1,1,1,1,1,1,1,0,0] [1],.code spy_n9,.blk 2,.code spy_n15,.blk 1,.code spy_n16,.inv J,.blk 0,.code spy_n19] ⟨[(2,.slice (some ⟨b,o,none⟩) n cp),(6,.bool false),(8,(pt pb 0)),(10,(pt g.qb 0)),(12,(pt sb 0)),(14,(pt sr 0)),(18,i6 (i:Int)),(19,(pt W10.heap.size 0)),(20,.bool true),(154,(pt pb 0))],(spy_b2 stripes xa pb g sb sr W10),[],W11.heap.size⟩ ?_
    refine holds_callW (w:=w) (S':=(fun _=>False)) (Y:=Nat) (fun _=>.tuple #[]) (fun _=>(spy_b2 stripes xa pb g sb sr W10)) (fun _ W_=>PlatAt 90 94 W_ pb (losePl M) ∧ RefAt 99 9 4 W_ g M) (fun _=>[(155,.tuple #[]),(2,.slice (some ⟨b,o,none⟩) n cp),(6,.bool false),(8,(pt pb 0)),(10,(pt g.qb 0)),(12,(pt sb 0)),(14,(pt sr 0)),(18,i6 (i:Int)),(19,(pt W10.heap.size 0)),(20,.bool true),(154,(pt pb 0))]) (show _ = some (35,[(pt pb 0)],some 155,[]) by kernel_rfl) tI (fun _=>rfl) (fun wx hm=>?_) (fun _ W17 hXW17 hm17=>?_)
    ·refine (lose_pl M pb wx (hP11.kept hm.kept (fun x hx=>hnT x (Nat.lt_of_lt_of_le (hMi x hx).2 hAB)))).mono fun e w' ⟨h1,h2,h3⟩=>?_
     exact ⟨0,h1,⟨h2,(hR11.kept hm.kept (fun x hx=>hnT x (hGi x hx).2)).kept h3 (fun x hx h=>by have h3:=(hMi _ h).2; have h4:=(hGi _ hx).1; omega)⟩,(MemOk.back2 hm11 hm).off (fun _ h=>h) h3 (fun x h=>.inr (hMi x h).1) (fun b hb h=>by have h4:=hnB b hb; have h5:=(hMi _ h).2; omega)⟩
    obtain ⟨hP17,hR17⟩:=hXW17
    refine hgE 6 [oh0] [2,6,8,10,12,14,18,19,20,156] [] [] [.ops spy_n9 [1],.blk 2,.code spy_n15,.blk 1,.code spy_n16,.inv J,.blk 0,.code spy_n19] ⟨[(2,.slice (some ⟨b,o,none⟩) n cp),(6,.bool false),(8,(pt pb 0)),(10,(pt g.qb 0)),(12,(pt sb 0)),(14,(pt sr 0)),(18,i6 (i:Int)),(19,(pt W10.heap.size 0)),(20,.bool true),(156,(pt g.qb 0))],(spy_b2 stripes xa pb g sb sr W10),[],W17.heap.size⟩ ?_
    refine holds_callW (w:=w) (S':=(fun _=>False)) (Y:=Nat) (fun _=>.tuple #[]) (fun _=>(spy_b2 stripes xa pb g sb sr W10)) (fun _ W_=>PlatAt 90 94 W_ pb (losePl M) ∧ RefAt 99 9 4 W_ g (losePl M)) (fun _=>[(157,.tuple #[]),(2,.slice (some ⟨b,o,none⟩) n cp),(6,.bool false),(8,(pt pb 0)),(10,(pt g.qb 0)),(12,(pt sb 0)),(14,(pt sr 0)),(18,i6 (i:Int)),(19,(pt W10.heap.size 0)),(20,.bool true),(156,(pt g.qb 0))]) (show _ = some (36,[(pt g.qb 0)],some 157,[]) by kernel_rfl) tI (fun _=>rfl) (fun wx hm=>?_) (fun _ W18 hXW18 hm18=>?_)
    ·obtain ⟨Rd,hRd1,hRd2⟩:=hR17
     refine (rlose_pl g hgk M pb Rd hok hRd2 wx (hRd1.kept hm.kept (fun x hx=>hnT x (hGi x hx).2))).mono fun e w' ⟨h1,h2,h3⟩=>?_
     exact ⟨0,h1,⟨(hP17.kept hm.kept (fun x hx=>hnT x (Nat.lt_of_lt_of_le (hMi x hx).2 hAB))).kept h3 (fun x hx h=>by have h3:=(hMi _ hx).2; have h4:=(hGi _ h).1; omega),h2⟩,(MemOk.back2 hm17 hm).off (fun _ h=>h) h3 (fun x h=>.inr (by have h4:=(hGi x h).1; omega)) (fun b hb h=>by have h4:=hnB b hb; have h5:=(hGi _ h).2; omega)⟩
    obtain ⟨hP18,hR18⟩:=hXW18
    refine hgE 7 [] spy_n38 [] [] [.ops spy_n11 spy_n1,.code spy_n14,.blk 1,.code spy_n16,.inv J,.blk 0,.code spy_n19] ⟨[(2,.slice (some ⟨b,o,none⟩) n cp),(6,.bool false),(8,(pt pb 0)),(10,(pt g.qb 0)),(12,(pt sb 0)),(14,(pt sr 0)),(18,i6 (i:Int)),(19,(pt W10.heap.size 0)),(20,.bool true)],(spy_b2 stripes xa pb g sb sr W10),[],W18.heap.size⟩ ?_
    exact holds_ground [true,true,true] rfl (fun W hm hmW=>HX40 W (losePl M) (rfl) (rfl) (by show M.acts ≤ _; omega) (hP18.kept hm.kept (fun x hx=>hnT x (Nat.lt_of_lt_of_le (hMi x hx).2 hAB))) (hR18.kept hm.kept (fun x hx=>hnT x (hGi x hx).2)) (MemOk.back2 hm18 hmW))
   ·skip
    refine hgE 64 [oh0,oh0,oh0,oh0,oh0,oh0,oh0,oh0,oh0,oh0,oh0,oh0,oh0,oh0,oh0,oh0,oh0,oh0,oh0,oh0,oh0,oh0,oh0,oh0,oh0,oh0,oh1,oh0,(oA 2 12 1),oh0] [2,6,8,10,12,14,18,19,20,162] [oE ((C == 0) = false) (by rw [hCv]; rfl),oE ((C == 1) = false) (by rw [hCv]; rfl),oE ((C == 2) = false) (by rw [hCv]; rfl),oE ((C == 3) = false) (by rw [hCv]; rfl),oE ((C == 4) = false) (by rw [hCv]; rfl),oE ((C == 5) = false) (by rw [hCv]; rfl),oE ((C == 6) = false) (by rw [hCv]; rfl),oE ((C == 7) = false) (by rw [hCv]; rfl),oE ((C == 8) = true) (by rw [hCv]; rfl)] [(W10.heap.size,12,1)] [.ops [1,1,1,1,1,1,1,1,1,1,0,1,0,0,1,0,0,1,1,0,1,0,1,1,1,1,1,1,1,1,1,1,1,0,0] [3,4,5,6],.code spy_n10,.blk 2,.code spy_n15,.blk 1,.code spy_n16,.inv J,.blk 0,.code spy_n19] ⟨[(2,.slice (some ⟨b,o,none⟩) n cp),(6,.bool false),(8,(pt pb 0)),(10,(pt g.qb 0)),(12,(pt sb 0)),(14,(pt sr 0)),(18,i6 (i:Int)),(19,(pt W10.heap.size 0)),(20,.bool true),(162,.slice (some ⟨W11.heap.size,0,none⟩) 1 1)],[⟨sb,92,false,[(pt pb 0),i6 stripes]⟩,⟨sr,102,false,[(pt g.qb 0),i6 stripes]⟩,⟨W10.heap.size,68,true,(spy_v1 xa)⟩,⟨W11.heap.size,9,true,[sT xa.text]⟩],[],W11.heap.size + 1⟩ ?_
    refine holds_callX (X:=Nat × Nat × List Value) (fun yt=>W11.heap.size + 1 ≤ yt.1) (fun yt=>.slice (some ⟨yt.1,0,none⟩) 1 yt.2.1) (fun yt=>(spy_b4 stripes xa pb g sb sr yt W10 W11)) (fun yt=>[(163,.slice (some ⟨yt.1,0,none⟩) 1 yt.2.1),(2,.slice (some ⟨b,o,none⟩) n cp),(6,.bool false),(8,(pt pb 0)),(10,(pt g.qb 0)),(12,(pt sb 0)),(14,(pt sr 0)),(18,i6 (i:Int)),(19,(pt W10.heap.size 0)),(20,.bool true),(162,.slice (some ⟨W11.heap.size,0,none⟩) 1 1)]) (show _ = some (37,[.slice (some ⟨W11.heap.size,0,none⟩) 1 1,i6 1,i6 64],some 163,[]) by kernel_rfl) tI (fun _=>rfl) (fun wx hm=>?_) ?_
    ·refine (texts_any64 _ _ wx (hm.at_ 3 rfl)).mono fun e w' he=>?_
     obtain ⟨y,h1,h2,h3,h4⟩:=he
     rw [hm.size] at h1
     have h5:=hm.add h4 [⟨y.1,9,true,.string (strL 64 xa.text) :: y.2.2⟩] ⟨h3,trivial⟩ (by simpa using h1) (by simp)
     exact ⟨y,h1,h2,h5⟩
    intro yt hyt z67 hz67
    replace hz67:W11.heap.size + 1 ≤ z67:=hz67
    refine hgE 7 [oh2,(oA 4 0 1),oh0] spy_n37 [oE ((0:Int) ≤ 0 ∧ 0 < ((1:Nat):Int))] [(yt.1,0,1)] [.code spy_n10,.blk 2,.code spy_n15,.blk 1,.code spy_n16,.inv J,.blk 0,.code spy_n19] ⟨[(2,.slice (some ⟨b,o,none⟩) n cp),(6,.bool false),(8,(pt pb 0)),(10,(pt g.qb 0)),(12,(pt sb 0)),(14,(pt sr 0)),(18,i6 (i:Int)),(19,(pt W10.heap.size 0)),(20,.bool true),(22,sT (strL 64 xa.text))],(spy_b4 stripes xa pb g sb sr yt W10 W11),[],z67⟩ ?_
    refine holds_prune spy_n37 [true,true,true,false,false] ?_
    refine holds_ground [true,true,true] rfl (fun W19 hm hmW'=>?_)
    have hP19:=(hP11.kept hm.kept (fun x hx=>hnT x (Nat.lt_of_lt_of_le (hMi x hx).2 hAB)))
    have hR19:=(hR11.kept hm.kept (fun x hx=>hnT x (hGi x hx).2))
    have hm19:=MemOk.back2 hm11 hmW'
    clear hm hmW' hnT hnB
    have hnT:∀ x,x < zB → ¬ Turned (spy_b2 stripes xa pb g sb sr W10) x:=by
     rintro x hx ⟨b,hb,hr,he⟩
     simp at hb
     rcases hb with rfl | rfl | rfl <;> simp at he hr <;> omega
    have hnB:∀ b ∈ ((spy_b2 stripes xa pb g sb sr W10):List Bk),zB ≤ b.g:=by
     intro b hb
     simp at hb
     rcases hb with rfl | rfl | rfl <;> simp <;> omega
    refine hgE 3 [] spy_n37 [] [] [.code spy_n10,.blk 2,.code spy_n15,.blk 1,.code spy_n16,.inv J,.blk 0,.code spy_n19] ⟨[(2,.slice (some ⟨b,o,none⟩) n cp),(6,.bool false),(8,(pt pb 0)),(10,(pt g.qb 0)),(12,(pt sb 0)),(14,(pt sr 0)),(18,i6 (i:Int)),(19,(pt W10.heap.size 0)),(20,.bool true),(22,sT (strL 64 xa.text))],(spy_b2 stripes xa pb g sb sr W10),[],W19.heap.size⟩ ?_
    refine holds_anyStart (f:=12) (ls:=spy_n39) (by kernel_rfl) (by kernel_rfl) (by kernel_rfl) (by kernel_rfl) ?_
    refine holds_tail panicOk_body _ _ (spy_t70 stripes n cp xa i pb g sb sr b o W10 W19) trivial ?_
    suffices HZ71:∀ Wd:World,PlatAt 90 94 Wd pb (wrPl M xa.stripe (intsOf (strL 64 xa.text))) ∧ RefAt 99 9 4 Wd g (wrPl M xa.stripe (intsOf (strL 64 xa.text))) → MemOk w (fun _=>False) (spy_71B stripes xa pb g sb sr W10) [] Wd.heap.size Wd → Holds [] Try.prog (bodyOf Try.f10) 222 Wd (Turned (spy_b2 stripes xa pb g sb sr W10)) (spy_Q w) [.blk 2,.code spy_n15,.blk 1,.code spy_n16,.inv J,.blk 0,.code spy_n19] ⟨[(2,.slice (some ⟨b,o,none⟩) n cp),(6,.bool false),(8,(pt pb 0)),(10,(pt g.qb 0)),(12,(pt sb 0)),(14,(pt sr 0)),(18,.int .i64 (i:Int)),(19,(pt W10.heap.size 0)),(20,.bool ((wrE M xa.stripe) == (wrE M xa.stripe)))],(spy_b2 stripes xa pb g sb sr W10),[],Wd.heap.size⟩ by
     have hC71_1:∀ Wd:World,PlatAt 90 94 Wd pb (wrPl M xa.stripe (intsOf (strL 64 xa.text))) ∧ RefAt 99 9 4 Wd g M → MemOk w (fun _=>False) (spy_71B stripes xa pb g sb sr W10) [] Wd.heap.size Wd → ∀ wx,MemOk Wd (Turned (spy_71B stripes xa pb g sb sr W10)) (spy_71B stripes xa pb g sb sr W10) [] Wd.heap.size wx → Calls Try.prog 38 #[(pt g.qb 0),.int .i64 xa.stripe,.string (strL 64 xa.text)] wx (fun e w'=>e = .returned (.int .i64 (wrE M xa.stripe)) ∧ (PlatAt 90 94 w' pb (wrPl M xa.stripe (intsOf (strL 64 xa.text))) ∧ RefAt 99 9 4 w' g (wrPl M xa.stripe (intsOf (strL 64 xa.text)))) ∧ MemOk w (fun _=>False) (spy_71B stripes xa pb g sb sr W10) [] w'.heap.size w'):=by
      intro Wd hXd hmd wx hm
      obtain ⟨hPd,hRd⟩:=hXd
      obtain ⟨Rd,hRd1,hRd2⟩:=hRd
      refine (rwrite_pl g hgk M pb Rd hok hRd2 (by omega) xa.stripe (strL 64 xa.text) (size_strL64 _) wx (hRd1.kept hm.kept (fun x hx=>hnT x (hGi x hx).2))).mono fun e w' ⟨h1,h2,h3⟩=>?_
      exact ⟨h1,⟨(hPd.kept hm.kept (fun x hx=>hnT x (Nat.lt_of_lt_of_le (hMi x (by have h:=mine_wr M pb xa.stripe (intsOf (strL 64 xa.text)); rw [h] at hx; exact hx)).2 hAB))).kept h3 (fun x hx h=>by have h3:=(hMi _ (by have h:=mine_wr M pb xa.stripe (intsOf (strL 64 xa.text)); rw [h] at hx; exact hx)).2; have h4:=(hGi _ h).1; omega),h2⟩,(MemOk.back2 hmd hm).off (fun _ h=>h) h3 (fun x h=>.inr (by have h4:=(hGi x h).1; omega)) (fun b hb h=>by have h4:=hnB b hb; have h5:=(hGi _ h).2; omega)⟩
     have hC71_0:∀ Wd:World,PlatAt 90 94 Wd pb M ∧ RefAt 99 9 4 Wd g M → MemOk w (fun _=>False) (spy_71B stripes xa pb g sb sr W10) [] Wd.heap.size Wd → ∀ wx,MemOk Wd (Turned (spy_71B stripes xa pb g sb sr W10)) (spy_71B stripes xa pb g sb sr W10) [] Wd.heap.size wx → Calls Try.prog 22 #[(pt pb 0),.int .i64 xa.stripe,.string (strL 64 xa.text)] wx (fun e w'=>e = .returned (.int .i64 (wrE M xa.stripe)) ∧ (PlatAt 90 94 w' pb (wrPl M xa.stripe (intsOf (strL 64 xa.text))) ∧ RefAt 99 9 4 w' g M) ∧ MemOk w (fun _=>False) (spy_71B stripes xa pb g sb sr W10) [] w'.heap.size w'):=by
      intro Wd hXd hmd wx hm
      obtain ⟨hPd,hRd⟩:=hXd
      refine (writeG_pl M pb xa.stripe (strL 64 xa.text) (by omega) (size_strL64 _) wx (hPd.kept hm.kept (fun x hx=>hnT x (Nat.lt_of_lt_of_le (hMi x hx).2 hAB)))).mono fun e w' ⟨h1,h2,h3⟩=>?_
      exact ⟨h1,⟨h2,(hRd.kept hm.kept (fun x hx=>hnT x (hGi x hx).2)).kept h3 (fun x hx h=>by have h3:=(hMi _ h).2; have h4:=(hGi _ hx).1; omega)⟩,(MemOk.back2 hmd hm).off (fun _ h=>h) h3 (fun x h=>.inr (hMi x h).1) (fun b hb h=>by have h4:=hnB b hb; have h5:=(hMi _ h).2; omega)⟩
     have A71_0:spy_71H2 stripes xa pb g sb sr M w W10 J 0 spy_n71 [(2,.slice (some ⟨b,o,none⟩) n cp),(6,.bool false),(8,(pt pb 0)),(10,(pt g.qb 0)),(12,(pt sb 0)),(14,(pt sr 0)),(18,i6 (i:Int)),(19,(pt W10.heap.size 0)),(20,.bool ((wrE M xa.stripe) == (wrE M xa.stripe)))]:=by
      intro Wd hXd hmd
      exact holds_done (by kernel_rfl) (HZ71 Wd hXd hmd)
     have A71_1:spy_71H2 stripes xa pb g sb sr M w W10 J 1 spy_n70 [(2,.slice (some ⟨b,o,none⟩) n cp),(6,.bool false),(8,(pt pb 0)),(10,(pt g.qb 0)),(12,(pt sb 0)),(14,(pt sr 0)),(18,i6 (i:Int)),(19,(pt W10.heap.size 0)),(20,.bool true),(176,.bool ((wrE M xa.stripe) == (wrE M xa.stripe)))]:=by
      intro Wd hXd hmd
      exact holds_anyAll (l:=[11]) (by kernel_rfl) (by simp) ⟨eop spy_n71 oh0 spy_n38 [] [] ⟨[(2,.slice (some ⟨b,o,none⟩) n cp),(6,.bool false),(8,(pt pb 0)),(10,(pt g.qb 0)),(12,(pt sb 0)),(14,(pt sr 0)),(18,i6 (i:Int)),(19,(pt W10.heap.size 0)),(20,.bool ((wrE M xa.stripe) == (wrE M xa.stripe)))],(spy_71B stripes xa pb g sb sr W10),[],Wd.heap.size⟩ tI (A71_0 Wd hXd hmd),tI⟩
     have A71_2:spy_71H2 stripes xa pb g sb sr M w W10 J 2 spy_n69 [(2,.slice (some ⟨b,o,none⟩) n cp),(6,.bool false),(8,(pt pb 0)),(10,(pt g.qb 0)),(12,(pt sb 0)),(14,(pt sr 0)),(18,i6 (i:Int)),(19,(pt W10.heap.size 0)),(20,.bool true),(170,i6 (wrE M xa.stripe)),(175,i6 (wrE M xa.stripe))]:=by
      intro Wd hXd hmd
      exact holds_anyAll (l:=[10]) (by kernel_rfl) (by simp) ⟨eop spy_n70 oh0 [2,6,8,10,12,14,18,19,20,176] [] [] ⟨[(2,.slice (some ⟨b,o,none⟩) n cp),(6,.bool false),(8,(pt pb 0)),(10,(pt g.qb 0)),(12,(pt sb 0)),(14,(pt sr 0)),(18,i6 (i:Int)),(19,(pt W10.heap.size 0)),(20,.bool true),(176,.bool ((wrE M xa.stripe) == (wrE M xa.stripe)))],(spy_71B stripes xa pb g sb sr W10),[],Wd.heap.size⟩ tI (A71_1 Wd hXd hmd),tI⟩
     have A71_3:spy_71H1 stripes xa pb g sb sr M w W10 J 3 spy_n67 [(2,.slice (some ⟨b,o,none⟩) n cp),(6,.bool false),(8,(pt pb 0)),(10,(pt g.qb 0)),(12,(pt sb 0)),(14,(pt sr 0)),(18,i6 (i:Int)),(19,(pt W10.heap.size 0)),(20,.bool true),(170,i6 (wrE M xa.stripe)),(171,(pt g.qb 0)),(173,i6 xa.stripe),(174,sT (strL 64 xa.text))]:=by
      intro Wd hXd hmd
      exact holds_anyAll (l:=[9]) (by kernel_rfl) (by simp) ⟨edge_callW (w:=w) (S':=(fun _=>False)) (ls':=spy_n69) (i6 (wrE M xa.stripe)) [2,6,8,10,12,14,18,19,20,170,175] (fun W_=>PlatAt 90 94 W_ pb (wrPl M xa.stripe (intsOf (strL 64 xa.text))) ∧ RefAt 99 9 4 W_ g (wrPl M xa.stripe (intsOf (strL 64 xa.text)))) (by kernel_rfl) (show _ = some (38,[(pt g.qb 0),i6 xa.stripe,sT (strL 64 xa.text)],some 175,[]) by kernel_rfl) tI rfl rfl (hC71_1 Wd hXd hmd) (fun W_ hX_ hm_=>A71_2 W_ hX_ hm_),tI⟩
     have A71_4:spy_71H1 stripes xa pb g sb sr M w W10 J 4 spy_n64 [(2,.slice (some ⟨b,o,none⟩) n cp),(6,.bool false),(8,(pt pb 0)),(10,(pt g.qb 0)),(12,(pt sb 0)),(14,(pt sr 0)),(18,i6 (i:Int)),(19,(pt W10.heap.size 0)),(20,.bool true),(170,i6 (wrE M xa.stripe)),(171,(pt g.qb 0)),(172,(pt W10.heap.size 1)),(174,sT (strL 64 xa.text))]:=by
      intro Wd hXd hmd
      exact holds_anyAll (l:=[7]) (by kernel_rfl) (by simp) ⟨eop spy_n67 (oA 2 1 1) spy_n28 [] [(W10.heap.size,1,1)] ⟨[(2,.slice (some ⟨b,o,none⟩) n cp),(6,.bool false),(8,(pt pb 0)),(10,(pt g.qb 0)),(12,(pt sb 0)),(14,(pt sr 0)),(18,i6 (i:Int)),(19,(pt W10.heap.size 0)),(20,.bool true),(170,i6 (wrE M xa.stripe)),(171,(pt g.qb 0)),(173,i6 xa.stripe),(174,sT (strL 64 xa.text))],(spy_71B stripes xa pb g sb sr W10),[],Wd.heap.size⟩ tI (A71_3 Wd hXd hmd),tI⟩
     have A71_5:spy_71H0 stripes xa pb g sb sr M w W10 J 4 spy_n60 [(2,.slice (some ⟨b,o,none⟩) n cp),(6,.bool false),(8,(pt pb 0)),(10,(pt g.qb 0)),(12,(pt sb 0)),(14,(pt sr 0)),(18,i6 (i:Int)),(19,(pt W10.heap.size 0)),(20,.bool true),(166,(pt pb 0)),(168,i6 xa.stripe),(169,sT (strL 64 xa.text)),(171,(pt g.qb 0)),(173,i6 xa.stripe),(174,sT (strL 64 xa.text))]:=by
      intro Wd hXd hmd
      exact holds_anyAll (l:=[4]) (by kernel_rfl) (by simp) ⟨edge_callW (w:=w) (S':=(fun _=>False)) (ls':=spy_n67) (i6 (wrE M xa.stripe)) spy_n28 (fun W_=>PlatAt 90 94 W_ pb (wrPl M xa.stripe (intsOf (strL 64 xa.text))) ∧ RefAt 99 9 4 W_ g M) (by kernel_rfl) (show _ = some (22,[(pt pb 0),i6 xa.stripe,sT (strL 64 xa.text)],some 170,[]) by kernel_rfl) tI rfl rfl (hC71_0 Wd hXd hmd) (fun W_ hX_ hm_=>A71_3 W_ hX_ hm_),tI⟩
     have A71_6:spy_71H0 stripes xa pb g sb sr M w W10 J 5 spy_n58 [(2,.slice (some ⟨b,o,none⟩) n cp),(6,.bool false),(8,(pt pb 0)),(10,(pt g.qb 0)),(12,(pt sb 0)),(14,(pt sr 0)),(18,i6 (i:Int)),(19,(pt W10.heap.size 0)),(20,.bool true),(166,(pt pb 0)),(168,i6 xa.stripe),(169,sT (strL 64 xa.text)),(171,(pt g.qb 0)),(172,(pt W10.heap.size 1)),(174,sT (strL 64 xa.text))]:=by
      intro Wd hXd hmd
      exact holds_anyAll (l:=[4,7]) (by kernel_rfl) (by simp) ⟨edge_callW (w:=w) (S':=(fun _=>False)) (ls':=spy_n64) (i6 (wrE M xa.stripe)) [2,6,8,10,12,14,18,19,20,170,171,172,174] (fun W_=>PlatAt 90 94 W_ pb (wrPl M xa.stripe (intsOf (strL 64 xa.text))) ∧ RefAt 99 9 4 W_ g M) (by kernel_rfl) (show _ = some (22,[(pt pb 0),i6 xa.stripe,sT (strL 64 xa.text)],some 170,[]) by kernel_rfl) tI rfl rfl (hC71_0 Wd hXd hmd) (fun W_ hX_ hm_=>A71_4 W_ hX_ hm_),eop spy_n60 (oA 2 1 1) spy_n27 [] [(W10.heap.size,1,1)] ⟨[(2,.slice (some ⟨b,o,none⟩) n cp),(6,.bool false),(8,(pt pb 0)),(10,(pt g.qb 0)),(12,(pt sb 0)),(14,(pt sr 0)),(18,i6 (i:Int)),(19,(pt W10.heap.size 0)),(20,.bool true),(166,(pt pb 0)),(168,i6 xa.stripe),(169,sT (strL 64 xa.text)),(171,(pt g.qb 0)),(173,i6 xa.stripe),(174,sT (strL 64 xa.text))],(spy_71B stripes xa pb g sb sr W10),[],Wd.heap.size⟩ tI (A71_5 Wd hXd hmd),tI⟩
     have A71_7:spy_71H0 stripes xa pb g sb sr M w W10 J 5 spy_n50 [(2,.slice (some ⟨b,o,none⟩) n cp),(6,.bool false),(8,(pt pb 0)),(10,(pt g.qb 0)),(12,(pt sb 0)),(14,(pt sr 0)),(18,i6 (i:Int)),(19,(pt W10.heap.size 0)),(20,.bool true),(166,(pt pb 0)),(167,(pt W10.heap.size 1)),(169,sT (strL 64 xa.text)),(171,(pt g.qb 0)),(173,i6 xa.stripe),(174,sT (strL 64 xa.text))]:=by
      intro Wd hXd hmd
      exact holds_anyAll (l:=[2]) (by kernel_rfl) (by simp) ⟨eop spy_n60 (oA 2 1 1) spy_n27 [] [(W10.heap.size,1,1)] ⟨[(2,.slice (some ⟨b,o,none⟩) n cp),(6,.bool false),(8,(pt pb 0)),(10,(pt g.qb 0)),(12,(pt sb 0)),(14,(pt sr 0)),(18,i6 (i:Int)),(19,(pt W10.heap.size 0)),(20,.bool true),(166,(pt pb 0)),(168,i6 xa.stripe),(169,sT (strL 64 xa.text)),(171,(pt g.qb 0)),(173,i6 xa.stripe),(174,sT (strL 64 xa.text))],(spy_71B stripes xa pb g sb sr W10),[],Wd.heap.size⟩ tI (A71_5 Wd hXd hmd),tI⟩
     have A71_8:spy_71H0 stripes xa pb g sb sr M w W10 J 6 spy_n48 [(2,.slice (some ⟨b,o,none⟩) n cp),(6,.bool false),(8,(pt pb 0)),(10,(pt g.qb 0)),(12,(pt sb 0)),(14,(pt sr 0)),(18,i6 (i:Int)),(19,(pt W10.heap.size 0)),(20,.bool true),(166,(pt pb 0)),(167,(pt W10.heap.size 1)),(169,sT (strL 64 xa.text)),(171,(pt g.qb 0)),(172,(pt W10.heap.size 1)),(174,sT (strL 64 xa.text))]:=by
      intro Wd hXd hmd
      exact holds_anyAll (l:=[2,7]) (by kernel_rfl) (by simp) ⟨eop spy_n58 (oA 2 1 1) [2,6,8,10,12,14,18,19,20,166,168,169,171,172,174] [] [(W10.heap.size,1,1)] ⟨[(2,.slice (some ⟨b,o,none⟩) n cp),(6,.bool false),(8,(pt pb 0)),(10,(pt g.qb 0)),(12,(pt sb 0)),(14,(pt sr 0)),(18,i6 (i:Int)),(19,(pt W10.heap.size 0)),(20,.bool true),(166,(pt pb 0)),(168,i6 xa.stripe),(169,sT (strL 64 xa.text)),(171,(pt g.qb 0)),(172,(pt W10.heap.size 1)),(174,sT (strL 64 xa.text))],(spy_71B stripes xa pb g sb sr W10),[],Wd.heap.size⟩ tI (A71_6 Wd hXd hmd),eop spy_n50 (oA 2 1 1) [2,6,8,10,12,14,18,19,20,166,167,169,171,173,174] [] [(W10.heap.size,1,1)] ⟨[(2,.slice (some ⟨b,o,none⟩) n cp),(6,.bool false),(8,(pt pb 0)),(10,(pt g.qb 0)),(12,(pt sb 0)),(14,(pt sr 0)),(18,i6 (i:Int)),(19,(pt W10.heap.size 0)),(20,.bool true),(166,(pt pb 0)),(167,(pt W10.heap.size 1)),(169,sT (strL 64 xa.text)),(171,(pt g.qb 0)),(173,i6 xa.stripe),(174,sT (strL 64 xa.text))],(spy_71B stripes xa pb g sb sr W10),[],Wd.heap.size⟩ tI (A71_7 Wd hXd hmd),tI⟩
     exact A71_8 W19 ⟨hP19,hR19⟩ hm19
    intro W22 hXW22 hmW22
    obtain ⟨hP22,hR22⟩:=hXW22
    have hm22:=hmW22
    refine hgE 6 [] spy_n38 [] [] [.ops spy_n11 spy_n1,.code spy_n14,.blk 1,.code spy_n16,.inv J,.blk 0,.code spy_n19] ⟨[(2,.slice (some ⟨b,o,none⟩) n cp),(6,.bool false),(8,(pt pb 0)),(10,(pt g.qb 0)),(12,(pt sb 0)),(14,(pt sr 0)),(18,i6 (i:Int)),(19,(pt W10.heap.size 0)),(20,.bool ((wrE M xa.stripe) == (wrE M xa.stripe)))],(spy_b2 stripes xa pb g sb sr W10),[],W22.heap.size⟩ ?_
    rw [show ((wrE M xa.stripe) == (wrE M xa.stripe)) = true by simp]
    exact holds_ground [true,true,true] rfl (fun W hm hmW=>HX40 W (wrPl M xa.stripe (intsOf (strL 64 xa.text))) (mine_wr M pb xa.stripe (intsOf (strL 64 xa.text))) (wr_n M xa.stripe _) (by have h:=acts_wr M xa.stripe (intsOf (strL 64 xa.text)); omega) (hP22.kept hm.kept (fun x hx=>hnT x (Nat.lt_of_lt_of_le (hMi x (by have h:=mine_wr M pb xa.stripe (intsOf (strL 64 xa.text)); rw [h] at hx; exact hx)).2 hAB))) (hR22.kept hm.kept (fun x hx=>hnT x (hGi x hx).2)) (MemOk.back2 hm22 hmW))
   ·skip
    refine hgE 63 [oh0,oh0,oh0,oh0,oh0,oh0,oh0,oh0,oh0,oh0,oh0,oh0,oh0,oh0,oh0,oh0,oh0,oh0,oh0,oh0,oh0,oh0,oh0,oh0,oh0,oh0,oh0] spy_n38 [oE ((C == 0) = false) (by rw [hCv]; rfl),oE ((C == 1) = false) (by rw [hCv]; rfl),oE ((C == 2) = false) (by rw [hCv]; rfl),oE ((C == 3) = false) (by rw [hCv]; rfl),oE ((C == 4) = false) (by rw [hCv]; rfl),oE ((C == 5) = false) (by rw [hCv]; rfl),oE ((C == 6) = false) (by rw [hCv]; rfl),oE ((C == 7) = false) (by rw [hCv]; rfl),oE ((C == 8) = false) (by rw [hCv]; rfl)] [] [.ops spy_n11 spy_n1,.code spy_n14,.blk 1,.code spy_n16,.inv J,.blk 0,.code spy_n19] ⟨[(2,.slice (some ⟨b,o,none⟩) n cp),(6,.bool false),(8,(pt pb 0)),(10,(pt g.qb 0)),(12,(pt sb 0)),(14,(pt sr 0)),(18,i6 (i:Int)),(19,(pt W10.heap.size 0)),(20,.bool true)],(spy_b2 stripes xa pb g sb sr W10),[],W11.heap.size⟩ ?_
    exact holds_ground [true,true,true] rfl (fun W hm hmW=>HX40 W M (rfl) (rfl) (by omega) (hP11.kept hm.kept (fun x hx=>hnT x (Nat.lt_of_lt_of_le (hMi x hx).2 hAB))) (hR11.kept hm.kept (fun x hx=>hnT x (hGi x hx).2)) (MemOk.back2 hm11 hmW))
  obtain ⟨r,hr⟩:∃ r,fitR xa.raw = r:=⟨_,rfl⟩
  obtain ⟨D,hD⟩:∃ D,pickZ xa.nn 9 = D:=⟨_,rfl⟩
  refine hgE 5 [oh0,(oA 2 3 9)] [2,6,8,10,12,14,18,19,20,103] [] [(W10.heap.size,3,9)] [.ops spy_n2 [2,3,4],.code spy_n5,.blk 2,.code spy_n15,.blk 1,.code spy_n16,.inv J,.blk 0,.code spy_n19] ⟨[(2,.slice (some ⟨b,o,none⟩) n cp),(6,.bool false),(8,(pt pb 0)),(10,(pt g.qb 0)),(12,(pt sb 0)),(14,(pt sr 0)),(18,i6 (i:Int)),(19,(pt W10.heap.size 0)),(20,.bool true),(103,.agg (List.toArray (spy_v3 xa)))],(spy_b2 stripes xa pb g sb sr W10),[],W11.heap.size⟩ ?_
  refine hcp (.agg (List.toArray (spy_v2 r))) 18 [.agg (List.toArray (spy_v3 xa))] (some 104) [] tI rfl (fun wx hm=>by have h:=fitR_any xa.raw hx.raw wx; rw [hr] at h; exact h) fun z75 hz75=>?_
  replace hz75:W11.heap.size ≤ z75:=hz75
  refine hgE 11 [oh0,(oA 3 0 10),oh0,(oA 2 2 1)] [2,6,8,10,12,14,18,19,20,21,106] [] [(z75,0,10),(W10.heap.size,2,1)] [.ops [1,1,1,1,1,1,1,1,1,1,0,1,0,0,1,0,0,1,1,0,1,0,1,0,1,0,0] [2,3],.code spy_n3,.code spy_n4,.blk 2,.code spy_n15,.blk 1,.code spy_n16,.inv J,.blk 0,.code spy_n19] ⟨[(2,.slice (some ⟨b,o,none⟩) n cp),(6,.bool false),(8,(pt pb 0)),(10,(pt g.qb 0)),(12,(pt sb 0)),(14,(pt sr 0)),(18,i6 (i:Int)),(19,(pt W10.heap.size 0)),(20,.bool true),(21,(pt z75 0)),(106,i6 xa.nn)],(spy_b3 stripes xa pb g sb sr r W10 z75),[],z75 + 1⟩ ?_
  refine hcp (i6 D) 19 [i6 xa.nn,i6 9] (some 107) [] tI rfl (fun wx hm=>pick8 _ _ _ hD wx (by omega) (by omega) hx.nn) fun z77 hz77=>?_
  replace hz77:z75 + 1 ≤ z77:=hz77
  refine hgE 5 [oh0] [2,6,8,10,12,14,18,19,20,21,108] [] [] [.code spy_n3,.code spy_n4,.blk 2,.code spy_n15,.blk 1,.code spy_n16,.inv J,.blk 0,.code spy_n19] ⟨[(2,.slice (some ⟨b,o,none⟩) n cp),(6,.bool false),(8,(pt pb 0)),(10,(pt g.qb 0)),(12,(pt sb 0)),(14,(pt sr 0)),(18,i6 (i:Int)),(19,(pt W10.heap.size 0)),(20,.bool true),(21,(pt z75 0)),(108,.bool (D == 8))],(spy_b3 stripes xa pb g sb sr r W10 z75),[],z77⟩ ?_
  suffices HX26:∀ r:RecM,Holds [] Try.prog (bodyOf Try.f10) 222 W11 (Turned (spy_b2 stripes xa pb g sb sr W10)) (spy_Q w) [.code spy_n4,.blk 2,.code spy_n15,.blk 1,.code spy_n16,.inv J,.blk 0,.code spy_n19] ⟨[(2,.slice (some ⟨b,o,none⟩) n cp),(6,.bool false),(8,(pt pb 0)),(10,(pt g.qb 0)),(12,(pt sb 0)),(14,(pt sr 0)),(18,.int .i64 (i:Int)),(19,(pt W10.heap.size 0)),(20,.bool true),(21,(pt z75 0))],(spy_b3 stripes xa pb g sb sr r W10 z75),[],z77⟩ by
   by_cases d1:D = 8
   ·skip
    refine hgE 11 [oh1,oh0,oh0,(oA 2 9 1),oh0,(oA 3 8 1)] spy_n36 [oE ((D == 8) = true) (by rw [d1]; rfl)] [(W10.heap.size,9,1),(z75,8,1)] [.code spy_n4,.blk 2,.code spy_n15,.blk 1,.code spy_n16,.inv J,.blk 0,.code spy_n19] ⟨[(2,.slice (some ⟨b,o,none⟩) n cp),(6,.bool false),(8,(pt pb 0)),(10,(pt g.qb 0)),(12,(pt sb 0)),(14,(pt sr 0)),(18,i6 (i:Int)),(19,(pt W10.heap.size 0)),(20,.bool true),(21,(pt z75 0))],[⟨sb,92,false,[(pt pb 0),i6 stripes]⟩,⟨sr,102,false,[(pt g.qb 0),i6 stripes]⟩,⟨W10.heap.size,68,true,(spy_v1 xa)⟩,⟨z75,25,true,[.bool r.used,i6 r.fence,i6 r.de,i6 r.ds,sT r.block,.bool r.op,i6 r.ie,i6 r.is,i6 xa.raw.mask,sT r.staged]⟩],[],z77⟩ ?_
    exact HX26 ⟨r.used,r.fence,r.de,r.ds,r.block,r.op,r.ie,r.is,xa.raw.mask,r.staged⟩
   ·skip
    refine hgE 5 [oh0] spy_n36 [oE ((D == 8) = false) (by simpa using d1)] [] [.code spy_n4,.blk 2,.code spy_n15,.blk 1,.code spy_n16,.inv J,.blk 0,.code spy_n19] ⟨[(2,.slice (some ⟨b,o,none⟩) n cp),(6,.bool false),(8,(pt pb 0)),(10,(pt g.qb 0)),(12,(pt sb 0)),(14,(pt sr 0)),(18,i6 (i:Int)),(19,(pt W10.heap.size 0)),(20,.bool true),(21,(pt z75 0))],(spy_b3 stripes xa pb g sb sr r W10 z75),[],z77⟩ ?_
    exact HX26 r
  clear hr r
  intro r
  refine holds_ground [true,true,true,true] rfl (fun W24 hm hmW'=>?_)
  have hP24:=(hP11.kept hm.kept (fun x hx=>hnT x (Nat.lt_of_lt_of_le (hMi x hx).2 hAB)))
  have hR24:=(hR11.kept hm.kept (fun x hx=>hnT x (hGi x hx).2))
  have hm24:=MemOk.back2 hm11 hmW'
  clear hm hmW' hnT hnB
  have hzz:W11.heap.size = W11.heap.size:=rfl
  have hnT:∀ x,x < zB → ¬ Turned (spy_b3 stripes xa pb g sb sr r W10 z75) x:=by
   rintro x hx ⟨b,hb,hr,he⟩
   simp at hb
   rcases hb with rfl | rfl | rfl | rfl <;> simp at he hr <;> omega
  have hnB:∀ b ∈ ((spy_b3 stripes xa pb g sb sr r W10 z75):List Bk),zB ≤ b.g:=by
   intro b hb
   simp at hb
   rcases hb with rfl | rfl | rfl | rfl <;> simp <;> omega
  refine hgE 3 [] spy_n36 [] [] [.code spy_n4,.blk 2,.code spy_n15,.blk 1,.code spy_n16,.inv J,.blk 0,.code spy_n19] ⟨[(2,.slice (some ⟨b,o,none⟩) n cp),(6,.bool false),(8,(pt pb 0)),(10,(pt g.qb 0)),(12,(pt sb 0)),(14,(pt sr 0)),(18,i6 (i:Int)),(19,(pt W10.heap.size 0)),(20,.bool true),(21,(pt z75 0))],(spy_b3 stripes xa pb g sb sr r W10 z75),[],W24.heap.size⟩ ?_
  refine holds_anyStart (f:=12) (ls:=spy_n39) (by kernel_rfl) (by kernel_rfl) (by kernel_rfl) (by kernel_rfl) ?_
  refine holds_tail panicOk_body _ _ (spy_t82 stripes n cp xa i pb g sb sr r b o W10 W24 z75) trivial ?_
  suffices HZ83:∀ Wd:World,PlatAt 90 94 Wd pb (setGP stripes M xa.stripe r) ∧ RefAt 99 9 4 Wd g (setGP stripes M xa.stripe r) → MemOk w (fun _=>False) (spy_83B stripes xa pb g sb sr r W10 z75) [] Wd.heap.size Wd → Holds [] Try.prog (bodyOf Try.f10) 222 Wd (Turned (spy_b3 stripes xa pb g sb sr r W10 z75)) (spy_Q w) [.blk 2,.code spy_n15,.blk 1,.code spy_n16,.inv J,.blk 0,.code spy_n19] ⟨[(2,.slice (some ⟨b,o,none⟩) n cp),(6,.bool false),(8,(pt pb 0)),(10,(pt g.qb 0)),(12,(pt sb 0)),(14,(pt sr 0)),(18,.int .i64 (i:Int)),(19,(pt W10.heap.size 0)),(20,.bool ((setGE stripes M xa.stripe r) == (setGE stripes M xa.stripe r)))],(spy_b3 stripes xa pb g sb sr r W10 z75),[],Wd.heap.size⟩ by
   have hC83_1:∀ Wd:World,PlatAt 90 94 Wd pb (setGP stripes M xa.stripe r) ∧ RefAt 99 9 4 Wd g M → MemOk w (fun _=>False) (spy_83B stripes xa pb g sb sr r W10 z75) [] Wd.heap.size Wd → ∀ wx,MemOk Wd (Turned (spy_83B stripes xa pb g sb sr r W10 z75)) (spy_83B stripes xa pb g sb sr r W10 z75) [] Wd.heap.size wx → Calls Try.prog 31 #[(pt sr 0),.int .i64 xa.stripe,.agg (List.toArray (spy_v2 r))] wx (fun e w'=>e = .returned (.int .i64 (setGE stripes M xa.stripe r)) ∧ (PlatAt 90 94 w' pb (setGP stripes M xa.stripe r) ∧ RefAt 99 9 4 w' g (setGP stripes M xa.stripe r)) ∧ MemOk w (fun _=>False) (spy_83B stripes xa pb g sb sr r W10 z75) [] w'.heap.size w'):=by
    intro Wd hXd hmd wx hm
    obtain ⟨hPd,hRd⟩:=hXd
    obtain ⟨Rd,hRd1,hRd2⟩:=hRd
    refine (rsetG_pl M g hgk pb sr hok stripes xa.stripe r (by omega) (by omega) (by omega) (fun h=>by have:=(hGi _ h).2; omega) wx ⟨Rd,(hRd1.kept hm.kept (fun x hx=>hnT x (hGi x hx).2)),hRd2⟩ (hm.at_ 1 rfl)).mono fun e w' ⟨h1,h2,h3⟩=>?_
    exact ⟨h1,⟨(hPd.kept hm.kept (fun x hx=>hnT x (Nat.lt_of_lt_of_le (hMi x (by have h:=mine_setG stripes M pb xa.stripe r; rw [h] at hx; exact hx)).2 hAB))).kept h3 (fun x hx h=>by have h3:=(hMi _ (by have h:=mine_setG stripes M pb xa.stripe r; rw [h] at hx; exact hx)).2; have h4:=(hGi _ h).1; omega),h2⟩,(MemOk.back2 hmd hm).off (fun _ h=>h) h3 (fun x h=>.inr (by have h4:=(hGi x h).1; omega)) (fun b hb h=>by have h4:=hnB b hb; have h5:=(hGi _ h).2; omega)⟩
   have hC83_0:∀ Wd:World,PlatAt 90 94 Wd pb M ∧ RefAt 99 9 4 Wd g M → MemOk w (fun _=>False) (spy_83B stripes xa pb g sb sr r W10 z75) [] Wd.heap.size Wd → ∀ wx,MemOk Wd (Turned (spy_83B stripes xa pb g sb sr r W10 z75)) (spy_83B stripes xa pb g sb sr r W10 z75) [] Wd.heap.size wx → Calls Try.prog 24 #[(pt sb 0),.int .i64 xa.stripe,.agg (List.toArray (spy_v2 r))] wx (fun e w'=>e = .returned (.int .i64 (setGE stripes M xa.stripe r)) ∧ (PlatAt 90 94 w' pb (setGP stripes M xa.stripe r) ∧ RefAt 99 9 4 w' g M) ∧ MemOk w (fun _=>False) (spy_83B stripes xa pb g sb sr r W10 z75) [] w'.heap.size w'):=by
    intro Wd hXd hmd wx hm
    obtain ⟨hPd,hRd⟩:=hXd
    refine (setG_pl M sb pb stripes xa.stripe r (by omega) (by omega) (by omega) (fun h=>by have:=(hMi _ h).2; omega) wx (hPd.kept hm.kept (fun x hx=>hnT x (Nat.lt_of_lt_of_le (hMi x hx).2 hAB))) (hm.at_ 0 rfl)).mono fun e w' ⟨h1,h2,h3⟩=>?_
    exact ⟨h1,⟨h2,(hRd.kept hm.kept (fun x hx=>hnT x (hGi x hx).2)).kept h3 (fun x hx h=>by have h3:=(hMi _ h).2; have h4:=(hGi _ hx).1; omega)⟩,(MemOk.back2 hmd hm).off (fun _ h=>h) h3 (fun x h=>.inr (hMi x h).1) (fun b hb h=>by have h4:=hnB b hb; have h5:=(hMi _ h).2; omega)⟩
   have A83_0:spy_83H2 stripes xa pb g sb sr M r w W10 J z75 0 spy_n71 [(2,.slice (some ⟨b,o,none⟩) n cp),(6,.bool false),(8,(pt pb 0)),(10,(pt g.qb 0)),(12,(pt sb 0)),(14,(pt sr 0)),(18,i6 (i:Int)),(19,(pt W10.heap.size 0)),(20,.bool ((setGE stripes M xa.stripe r) == (setGE stripes M xa.stripe r)))]:=by
    intro Wd hXd hmd
    exact holds_done (by kernel_rfl) (HZ83 Wd hXd hmd)
   have A83_1:spy_83H2 stripes xa pb g sb sr M r w W10 J z75 1 spy_n70 [(2,.slice (some ⟨b,o,none⟩) n cp),(6,.bool false),(8,(pt pb 0)),(10,(pt g.qb 0)),(12,(pt sb 0)),(14,(pt sr 0)),(18,i6 (i:Int)),(19,(pt W10.heap.size 0)),(20,.bool true),(123,.bool ((setGE stripes M xa.stripe r) == (setGE stripes M xa.stripe r)))]:=by
    intro Wd hXd hmd
    exact holds_anyAll (l:=[11]) (by kernel_rfl) (by simp) ⟨eop spy_n71 oh0 spy_n38 [] [] ⟨[(2,.slice (some ⟨b,o,none⟩) n cp),(6,.bool false),(8,(pt pb 0)),(10,(pt g.qb 0)),(12,(pt sb 0)),(14,(pt sr 0)),(18,i6 (i:Int)),(19,(pt W10.heap.size 0)),(20,.bool ((setGE stripes M xa.stripe r) == (setGE stripes M xa.stripe r)))],(spy_83B stripes xa pb g sb sr r W10 z75),[],Wd.heap.size⟩ tI (A83_0 Wd hXd hmd),tI⟩
   have A83_2:spy_83H2 stripes xa pb g sb sr M r w W10 J z75 2 spy_n69 [(2,.slice (some ⟨b,o,none⟩) n cp),(6,.bool false),(8,(pt pb 0)),(10,(pt g.qb 0)),(12,(pt sb 0)),(14,(pt sr 0)),(18,i6 (i:Int)),(19,(pt W10.heap.size 0)),(20,.bool true),(117,i6 (setGE stripes M xa.stripe r)),(122,i6 (setGE stripes M xa.stripe r))]:=by
    intro Wd hXd hmd
    exact holds_anyAll (l:=[10]) (by kernel_rfl) (by simp) ⟨eop spy_n70 oh0 [2,6,8,10,12,14,18,19,20,123] [] [] ⟨[(2,.slice (some ⟨b,o,none⟩) n cp),(6,.bool false),(8,(pt pb 0)),(10,(pt g.qb 0)),(12,(pt sb 0)),(14,(pt sr 0)),(18,i6 (i:Int)),(19,(pt W10.heap.size 0)),(20,.bool true),(123,.bool ((setGE stripes M xa.stripe r) == (setGE stripes M xa.stripe r)))],(spy_83B stripes xa pb g sb sr r W10 z75),[],Wd.heap.size⟩ tI (A83_1 Wd hXd hmd),tI⟩
   have A83_3:spy_83H1 stripes xa pb g sb sr M r w W10 J z75 3 spy_n67 [(2,.slice (some ⟨b,o,none⟩) n cp),(6,.bool false),(8,(pt pb 0)),(10,(pt g.qb 0)),(12,(pt sb 0)),(14,(pt sr 0)),(18,i6 (i:Int)),(19,(pt W10.heap.size 0)),(20,.bool true),(117,i6 (setGE stripes M xa.stripe r)),(118,(pt sr 0)),(120,i6 xa.stripe),(121,.agg (List.toArray (spy_v2 r)))]:=by
    intro Wd hXd hmd
    exact holds_anyAll (l:=[9]) (by kernel_rfl) (by simp) ⟨edge_callW (w:=w) (S':=(fun _=>False)) (ls':=spy_n69) (i6 (setGE stripes M xa.stripe r)) [2,6,8,10,12,14,18,19,20,117,122] (fun W_=>PlatAt 90 94 W_ pb (setGP stripes M xa.stripe r) ∧ RefAt 99 9 4 W_ g (setGP stripes M xa.stripe r)) (by kernel_rfl) (show _ = some (31,[(pt sr 0),i6 xa.stripe,.agg (List.toArray (spy_v2 r))],some 122,[]) by kernel_rfl) tI rfl rfl (hC83_1 Wd hXd hmd) (fun W_ hX_ hm_=>A83_2 W_ hX_ hm_),tI⟩
   have A83_4:spy_83H1 stripes xa pb g sb sr M r w W10 J z75 4 spy_n65 [(2,.slice (some ⟨b,o,none⟩) n cp),(6,.bool false),(8,(pt pb 0)),(10,(pt g.qb 0)),(12,(pt sb 0)),(14,(pt sr 0)),(18,i6 (i:Int)),(19,(pt W10.heap.size 0)),(20,.bool true),(21,(pt z75 0)),(117,i6 (setGE stripes M xa.stripe r)),(118,(pt sr 0)),(120,i6 xa.stripe)]:=by
    intro Wd hXd hmd
    exact holds_anyAll (l:=[8]) (by kernel_rfl) (by simp) ⟨eop spy_n67 (oA 3 0 10) spy_n25 [] [(z75,0,10)] ⟨[(2,.slice (some ⟨b,o,none⟩) n cp),(6,.bool false),(8,(pt pb 0)),(10,(pt g.qb 0)),(12,(pt sb 0)),(14,(pt sr 0)),(18,i6 (i:Int)),(19,(pt W10.heap.size 0)),(20,.bool true),(117,i6 (setGE stripes M xa.stripe r)),(118,(pt sr 0)),(120,i6 xa.stripe),(121,.agg (List.toArray (spy_v2 r)))],(spy_83B stripes xa pb g sb sr r W10 z75),[],Wd.heap.size⟩ tI (A83_3 Wd hXd hmd),tI⟩
   have A83_5:spy_83H1 stripes xa pb g sb sr M r w W10 J z75 4 spy_n64 [(2,.slice (some ⟨b,o,none⟩) n cp),(6,.bool false),(8,(pt pb 0)),(10,(pt g.qb 0)),(12,(pt sb 0)),(14,(pt sr 0)),(18,i6 (i:Int)),(19,(pt W10.heap.size 0)),(20,.bool true),(117,i6 (setGE stripes M xa.stripe r)),(118,(pt sr 0)),(119,(pt W10.heap.size 1)),(121,.agg (List.toArray (spy_v2 r)))]:=by
    intro Wd hXd hmd
    exact holds_anyAll (l:=[7]) (by kernel_rfl) (by simp) ⟨eop spy_n67 (oA 2 1 1) spy_n25 [] [(W10.heap.size,1,1)] ⟨[(2,.slice (some ⟨b,o,none⟩) n cp),(6,.bool false),(8,(pt pb 0)),(10,(pt g.qb 0)),(12,(pt sb 0)),(14,(pt sr 0)),(18,i6 (i:Int)),(19,(pt W10.heap.size 0)),(20,.bool true),(117,i6 (setGE stripes M xa.stripe r)),(118,(pt sr 0)),(120,i6 xa.stripe),(121,.agg (List.toArray (spy_v2 r)))],(spy_83B stripes xa pb g sb sr r W10 z75),[],Wd.heap.size⟩ tI (A83_3 Wd hXd hmd),tI⟩
   have A83_6:spy_83H0 stripes xa pb g sb sr M r w W10 J z75 4 spy_n60 [(2,.slice (some ⟨b,o,none⟩) n cp),(6,.bool false),(8,(pt pb 0)),(10,(pt g.qb 0)),(12,(pt sb 0)),(14,(pt sr 0)),(18,i6 (i:Int)),(19,(pt W10.heap.size 0)),(20,.bool true),(113,(pt sb 0)),(115,i6 xa.stripe),(116,.agg (List.toArray (spy_v2 r))),(118,(pt sr 0)),(120,i6 xa.stripe),(121,.agg (List.toArray (spy_v2 r)))]:=by
    intro Wd hXd hmd
    exact holds_anyAll (l:=[4]) (by kernel_rfl) (by simp) ⟨edge_callW (w:=w) (S':=(fun _=>False)) (ls':=spy_n67) (i6 (setGE stripes M xa.stripe r)) spy_n25 (fun W_=>PlatAt 90 94 W_ pb (setGP stripes M xa.stripe r) ∧ RefAt 99 9 4 W_ g M) (by kernel_rfl) (show _ = some (24,[(pt sb 0),i6 xa.stripe,.agg (List.toArray (spy_v2 r))],some 117,[]) by kernel_rfl) tI rfl rfl (hC83_0 Wd hXd hmd) (fun W_ hX_ hm_=>A83_3 W_ hX_ hm_),tI⟩
   have A83_7:spy_83H1 stripes xa pb g sb sr M r w W10 J z75 5 spy_n62 [(2,.slice (some ⟨b,o,none⟩) n cp),(6,.bool false),(8,(pt pb 0)),(10,(pt g.qb 0)),(12,(pt sb 0)),(14,(pt sr 0)),(18,i6 (i:Int)),(19,(pt W10.heap.size 0)),(20,.bool true),(21,(pt z75 0)),(117,i6 (setGE stripes M xa.stripe r)),(118,(pt sr 0)),(119,(pt W10.heap.size 1))]:=by
    intro Wd hXd hmd
    exact holds_anyAll (l:=[7,8]) (by kernel_rfl) (by simp) ⟨eop spy_n65 (oA 2 1 1) [2,6,8,10,12,14,18,19,20,21,117,118,120] [] [(W10.heap.size,1,1)] ⟨[(2,.slice (some ⟨b,o,none⟩) n cp),(6,.bool false),(8,(pt pb 0)),(10,(pt g.qb 0)),(12,(pt sb 0)),(14,(pt sr 0)),(18,i6 (i:Int)),(19,(pt W10.heap.size 0)),(20,.bool true),(21,(pt z75 0)),(117,i6 (setGE stripes M xa.stripe r)),(118,(pt sr 0)),(120,i6 xa.stripe)],(spy_83B stripes xa pb g sb sr r W10 z75),[],Wd.heap.size⟩ tI (A83_4 Wd hXd hmd),eop spy_n64 (oA 3 0 10) spy_n24 [] [(z75,0,10)] ⟨[(2,.slice (some ⟨b,o,none⟩) n cp),(6,.bool false),(8,(pt pb 0)),(10,(pt g.qb 0)),(12,(pt sb 0)),(14,(pt sr 0)),(18,i6 (i:Int)),(19,(pt W10.heap.size 0)),(20,.bool true),(117,i6 (setGE stripes M xa.stripe r)),(118,(pt sr 0)),(119,(pt W10.heap.size 1)),(121,.agg (List.toArray (spy_v2 r)))],(spy_83B stripes xa pb g sb sr r W10 z75),[],Wd.heap.size⟩ tI (A83_5 Wd hXd hmd),tI⟩
   have A83_8:spy_83H0 stripes xa pb g sb sr M r w W10 J z75 5 spy_n59 [(2,.slice (some ⟨b,o,none⟩) n cp),(6,.bool false),(8,(pt pb 0)),(10,(pt g.qb 0)),(12,(pt sb 0)),(14,(pt sr 0)),(18,i6 (i:Int)),(19,(pt W10.heap.size 0)),(20,.bool true),(21,(pt z75 0)),(113,(pt sb 0)),(115,i6 xa.stripe),(116,.agg (List.toArray (spy_v2 r))),(118,(pt sr 0)),(120,i6 xa.stripe)]:=by
    intro Wd hXd hmd
    exact holds_anyAll (l:=[4,8]) (by kernel_rfl) (by simp) ⟨edge_callW (w:=w) (S':=(fun _=>False)) (ls':=spy_n65) (i6 (setGE stripes M xa.stripe r)) [2,6,8,10,12,14,18,19,20,21,117,118,120] (fun W_=>PlatAt 90 94 W_ pb (setGP stripes M xa.stripe r) ∧ RefAt 99 9 4 W_ g M) (by kernel_rfl) (show _ = some (24,[(pt sb 0),i6 xa.stripe,.agg (List.toArray (spy_v2 r))],some 117,[]) by kernel_rfl) tI rfl rfl (hC83_0 Wd hXd hmd) (fun W_ hX_ hm_=>A83_4 W_ hX_ hm_),eop spy_n60 (oA 3 0 10) spy_n23 [] [(z75,0,10)] ⟨[(2,.slice (some ⟨b,o,none⟩) n cp),(6,.bool false),(8,(pt pb 0)),(10,(pt g.qb 0)),(12,(pt sb 0)),(14,(pt sr 0)),(18,i6 (i:Int)),(19,(pt W10.heap.size 0)),(20,.bool true),(113,(pt sb 0)),(115,i6 xa.stripe),(116,.agg (List.toArray (spy_v2 r))),(118,(pt sr 0)),(120,i6 xa.stripe),(121,.agg (List.toArray (spy_v2 r)))],(spy_83B stripes xa pb g sb sr r W10 z75),[],Wd.heap.size⟩ tI (A83_6 Wd hXd hmd),tI⟩
   have A83_9:spy_83H0 stripes xa pb g sb sr M r w W10 J z75 5 spy_n58 [(2,.slice (some ⟨b,o,none⟩) n cp),(6,.bool false),(8,(pt pb 0)),(10,(pt g.qb 0)),(12,(pt sb 0)),(14,(pt sr 0)),(18,i6 (i:Int)),(19,(pt W10.heap.size 0)),(20,.bool true),(113,(pt sb 0)),(115,i6 xa.stripe),(116,.agg (List.toArray (spy_v2 r))),(118,(pt sr 0)),(119,(pt W10.heap.size 1)),(121,.agg (List.toArray (spy_v2 r)))]:=by
    intro Wd hXd hmd
    exact holds_anyAll (l:=[4,7]) (by kernel_rfl) (by simp) ⟨edge_callW (w:=w) (S':=(fun _=>False)) (ls':=spy_n64) (i6 (setGE stripes M xa.stripe r)) spy_n24 (fun W_=>PlatAt 90 94 W_ pb (setGP stripes M xa.stripe r) ∧ RefAt 99 9 4 W_ g M) (by kernel_rfl) (show _ = some (24,[(pt sb 0),i6 xa.stripe,.agg (List.toArray (spy_v2 r))],some 117,[]) by kernel_rfl) tI rfl rfl (hC83_0 Wd hXd hmd) (fun W_ hX_ hm_=>A83_5 W_ hX_ hm_),eop spy_n60 (oA 2 1 1) spy_n23 [] [(W10.heap.size,1,1)] ⟨[(2,.slice (some ⟨b,o,none⟩) n cp),(6,.bool false),(8,(pt pb 0)),(10,(pt g.qb 0)),(12,(pt sb 0)),(14,(pt sr 0)),(18,i6 (i:Int)),(19,(pt W10.heap.size 0)),(20,.bool true),(113,(pt sb 0)),(115,i6 xa.stripe),(116,.agg (List.toArray (spy_v2 r))),(118,(pt sr 0)),(120,i6 xa.stripe),(121,.agg (List.toArray (spy_v2 r)))],(spy_83B stripes xa pb g sb sr r W10 z75),[],Wd.heap.size⟩ tI (A83_6 Wd hXd hmd),tI⟩
   have A83_10:spy_83H0 stripes xa pb g sb sr M r w W10 J z75 5 spy_n54 [(2,.slice (some ⟨b,o,none⟩) n cp),(6,.bool false),(8,(pt pb 0)),(10,(pt g.qb 0)),(12,(pt sb 0)),(14,(pt sr 0)),(18,i6 (i:Int)),(19,(pt W10.heap.size 0)),(20,.bool true),(21,(pt z75 0)),(113,(pt sb 0)),(115,i6 xa.stripe),(118,(pt sr 0)),(120,i6 xa.stripe),(121,.agg (List.toArray (spy_v2 r)))]:=by
    intro Wd hXd hmd
    exact holds_anyAll (l:=[3]) (by kernel_rfl) (by simp) ⟨eop spy_n60 (oA 3 0 10) spy_n23 [] [(z75,0,10)] ⟨[(2,.slice (some ⟨b,o,none⟩) n cp),(6,.bool false),(8,(pt pb 0)),(10,(pt g.qb 0)),(12,(pt sb 0)),(14,(pt sr 0)),(18,i6 (i:Int)),(19,(pt W10.heap.size 0)),(20,.bool true),(113,(pt sb 0)),(115,i6 xa.stripe),(116,.agg (List.toArray (spy_v2 r))),(118,(pt sr 0)),(120,i6 xa.stripe),(121,.agg (List.toArray (spy_v2 r)))],(spy_83B stripes xa pb g sb sr r W10 z75),[],Wd.heap.size⟩ tI (A83_6 Wd hXd hmd),tI⟩
   have A83_11:spy_83H0 stripes xa pb g sb sr M r w W10 J z75 5 spy_n50 [(2,.slice (some ⟨b,o,none⟩) n cp),(6,.bool false),(8,(pt pb 0)),(10,(pt g.qb 0)),(12,(pt sb 0)),(14,(pt sr 0)),(18,i6 (i:Int)),(19,(pt W10.heap.size 0)),(20,.bool true),(113,(pt sb 0)),(114,(pt W10.heap.size 1)),(116,.agg (List.toArray (spy_v2 r))),(118,(pt sr 0)),(120,i6 xa.stripe),(121,.agg (List.toArray (spy_v2 r)))]:=by
    intro Wd hXd hmd
    exact holds_anyAll (l:=[2]) (by kernel_rfl) (by simp) ⟨eop spy_n60 (oA 2 1 1) spy_n23 [] [(W10.heap.size,1,1)] ⟨[(2,.slice (some ⟨b,o,none⟩) n cp),(6,.bool false),(8,(pt pb 0)),(10,(pt g.qb 0)),(12,(pt sb 0)),(14,(pt sr 0)),(18,i6 (i:Int)),(19,(pt W10.heap.size 0)),(20,.bool true),(113,(pt sb 0)),(115,i6 xa.stripe),(116,.agg (List.toArray (spy_v2 r))),(118,(pt sr 0)),(120,i6 xa.stripe),(121,.agg (List.toArray (spy_v2 r)))],(spy_83B stripes xa pb g sb sr r W10 z75),[],Wd.heap.size⟩ tI (A83_6 Wd hXd hmd),tI⟩
   have A83_12:spy_83H0 stripes xa pb g sb sr M r w W10 J z75 6 spy_n57 [(2,.slice (some ⟨b,o,none⟩) n cp),(6,.bool false),(8,(pt pb 0)),(10,(pt g.qb 0)),(12,(pt sb 0)),(14,(pt sr 0)),(18,i6 (i:Int)),(19,(pt W10.heap.size 0)),(20,.bool true),(21,(pt z75 0)),(113,(pt sb 0)),(115,i6 xa.stripe),(116,.agg (List.toArray (spy_v2 r))),(118,(pt sr 0)),(119,(pt W10.heap.size 1))]:=by
    intro Wd hXd hmd
    exact holds_anyAll (l:=[4,7,8]) (by kernel_rfl) (by simp) ⟨edge_callW (w:=w) (S':=(fun _=>False)) (ls':=spy_n62) (i6 (setGE stripes M xa.stripe r)) [2,6,8,10,12,14,18,19,20,21,117,118,119] (fun W_=>PlatAt 90 94 W_ pb (setGP stripes M xa.stripe r) ∧ RefAt 99 9 4 W_ g M) (by kernel_rfl) (show _ = some (24,[(pt sb 0),i6 xa.stripe,.agg (List.toArray (spy_v2 r))],some 117,[]) by kernel_rfl) tI rfl rfl (hC83_0 Wd hXd hmd) (fun W_ hX_ hm_=>A83_7 W_ hX_ hm_),eop spy_n59 (oA 2 1 1) spy_n32 [] [(W10.heap.size,1,1)] ⟨[(2,.slice (some ⟨b,o,none⟩) n cp),(6,.bool false),(8,(pt pb 0)),(10,(pt g.qb 0)),(12,(pt sb 0)),(14,(pt sr 0)),(18,i6 (i:Int)),(19,(pt W10.heap.size 0)),(20,.bool true),(21,(pt z75 0)),(113,(pt sb 0)),(115,i6 xa.stripe),(116,.agg (List.toArray (spy_v2 r))),(118,(pt sr 0)),(120,i6 xa.stripe)],(spy_83B stripes xa pb g sb sr r W10 z75),[],Wd.heap.size⟩ tI (A83_8 Wd hXd hmd),eop spy_n58 (oA 3 0 10) spy_n22 [] [(z75,0,10)] ⟨[(2,.slice (some ⟨b,o,none⟩) n cp),(6,.bool false),(8,(pt pb 0)),(10,(pt g.qb 0)),(12,(pt sb 0)),(14,(pt sr 0)),(18,i6 (i:Int)),(19,(pt W10.heap.size 0)),(20,.bool true),(113,(pt sb 0)),(115,i6 xa.stripe),(116,.agg (List.toArray (spy_v2 r))),(118,(pt sr 0)),(119,(pt W10.heap.size 1)),(121,.agg (List.toArray (spy_v2 r)))],(spy_83B stripes xa pb g sb sr r W10 z75),[],Wd.heap.size⟩ tI (A83_9 Wd hXd hmd),tI⟩
   have A83_13:spy_83H0 stripes xa pb g sb sr M r w W10 J z75 6 spy_n53 [(2,.slice (some ⟨b,o,none⟩) n cp),(6,.bool false),(8,(pt pb 0)),(10,(pt g.qb 0)),(12,(pt sb 0)),(14,(pt sr 0)),(18,i6 (i:Int)),(19,(pt W10.heap.size 0)),(20,.bool true),(21,(pt z75 0)),(113,(pt sb 0)),(115,i6 xa.stripe),(118,(pt sr 0)),(120,i6 xa.stripe)]:=by
    intro Wd hXd hmd
    exact holds_anyAll (l:=[3,8]) (by kernel_rfl) (by simp) ⟨eop spy_n59 (oA 3 0 10) spy_n32 [] [(z75,0,10)] ⟨[(2,.slice (some ⟨b,o,none⟩) n cp),(6,.bool false),(8,(pt pb 0)),(10,(pt g.qb 0)),(12,(pt sb 0)),(14,(pt sr 0)),(18,i6 (i:Int)),(19,(pt W10.heap.size 0)),(20,.bool true),(21,(pt z75 0)),(113,(pt sb 0)),(115,i6 xa.stripe),(116,.agg (List.toArray (spy_v2 r))),(118,(pt sr 0)),(120,i6 xa.stripe)],(spy_83B stripes xa pb g sb sr r W10 z75),[],Wd.heap.size⟩ tI (A83_8 Wd hXd hmd),eop spy_n54 (oA 3 0 10) spy_n34 [] [(z75,0,10)] ⟨[(2,.slice (some ⟨b,o,none⟩) n cp),(6,.bool false),(8,(pt pb 0)),(10,(pt g.qb 0)),(12,(pt sb 0)),(14,(pt sr 0)),(18,i6 (i:Int)),(19,(pt W10.heap.size 0)),(20,.bool true),(21,(pt z75 0)),(113,(pt sb 0)),(115,i6 xa.stripe),(118,(pt sr 0)),(120,i6 xa.stripe),(121,.agg (List.toArray (spy_v2 r)))],(spy_83B stripes xa pb g sb sr r W10 z75),[],Wd.heap.size⟩ tI (A83_10 Wd hXd hmd),tI⟩
   have A83_14:spy_83H0 stripes xa pb g sb sr M r w W10 J z75 6 spy_n52 [(2,.slice (some ⟨b,o,none⟩) n cp),(6,.bool false),(8,(pt pb 0)),(10,(pt g.qb 0)),(12,(pt sb 0)),(14,(pt sr 0)),(18,i6 (i:Int)),(19,(pt W10.heap.size 0)),(20,.bool true),(21,(pt z75 0)),(113,(pt sb 0)),(115,i6 xa.stripe),(118,(pt sr 0)),(119,(pt W10.heap.size 1)),(121,.agg (List.toArray (spy_v2 r)))]:=by
    intro Wd hXd hmd
    exact holds_anyAll (l:=[3,7]) (by kernel_rfl) (by simp) ⟨eop spy_n58 (oA 3 0 10) spy_n22 [] [(z75,0,10)] ⟨[(2,.slice (some ⟨b,o,none⟩) n cp),(6,.bool false),(8,(pt pb 0)),(10,(pt g.qb 0)),(12,(pt sb 0)),(14,(pt sr 0)),(18,i6 (i:Int)),(19,(pt W10.heap.size 0)),(20,.bool true),(113,(pt sb 0)),(115,i6 xa.stripe),(116,.agg (List.toArray (spy_v2 r))),(118,(pt sr 0)),(119,(pt W10.heap.size 1)),(121,.agg (List.toArray (spy_v2 r)))],(spy_83B stripes xa pb g sb sr r W10 z75),[],Wd.heap.size⟩ tI (A83_9 Wd hXd hmd),eop spy_n54 (oA 2 1 1) spy_n34 [] [(W10.heap.size,1,1)] ⟨[(2,.slice (some ⟨b,o,none⟩) n cp),(6,.bool false),(8,(pt pb 0)),(10,(pt g.qb 0)),(12,(pt sb 0)),(14,(pt sr 0)),(18,i6 (i:Int)),(19,(pt W10.heap.size 0)),(20,.bool true),(21,(pt z75 0)),(113,(pt sb 0)),(115,i6 xa.stripe),(118,(pt sr 0)),(120,i6 xa.stripe),(121,.agg (List.toArray (spy_v2 r)))],(spy_83B stripes xa pb g sb sr r W10 z75),[],Wd.heap.size⟩ tI (A83_10 Wd hXd hmd),tI⟩
   have A83_15:spy_83H0 stripes xa pb g sb sr M r w W10 J z75 6 spy_n49 [(2,.slice (some ⟨b,o,none⟩) n cp),(6,.bool false),(8,(pt pb 0)),(10,(pt g.qb 0)),(12,(pt sb 0)),(14,(pt sr 0)),(18,i6 (i:Int)),(19,(pt W10.heap.size 0)),(20,.bool true),(21,(pt z75 0)),(113,(pt sb 0)),(114,(pt W10.heap.size 1)),(116,.agg (List.toArray (spy_v2 r))),(118,(pt sr 0)),(120,i6 xa.stripe)]:=by
    intro Wd hXd hmd
    exact holds_anyAll (l:=[2,8]) (by kernel_rfl) (by simp) ⟨eop spy_n59 (oA 2 1 1) spy_n32 [] [(W10.heap.size,1,1)] ⟨[(2,.slice (some ⟨b,o,none⟩) n cp),(6,.bool false),(8,(pt pb 0)),(10,(pt g.qb 0)),(12,(pt sb 0)),(14,(pt sr 0)),(18,i6 (i:Int)),(19,(pt W10.heap.size 0)),(20,.bool true),(21,(pt z75 0)),(113,(pt sb 0)),(115,i6 xa.stripe),(116,.agg (List.toArray (spy_v2 r))),(118,(pt sr 0)),(120,i6 xa.stripe)],(spy_83B stripes xa pb g sb sr r W10 z75),[],Wd.heap.size⟩ tI (A83_8 Wd hXd hmd),eop spy_n50 (oA 3 0 10) spy_n21 [] [(z75,0,10)] ⟨[(2,.slice (some ⟨b,o,none⟩) n cp),(6,.bool false),(8,(pt pb 0)),(10,(pt g.qb 0)),(12,(pt sb 0)),(14,(pt sr 0)),(18,i6 (i:Int)),(19,(pt W10.heap.size 0)),(20,.bool true),(113,(pt sb 0)),(114,(pt W10.heap.size 1)),(116,.agg (List.toArray (spy_v2 r))),(118,(pt sr 0)),(120,i6 xa.stripe),(121,.agg (List.toArray (spy_v2 r)))],(spy_83B stripes xa pb g sb sr r W10 z75),[],Wd.heap.size⟩ tI (A83_11 Wd hXd hmd),tI⟩
   have A83_16:spy_83H0 stripes xa pb g sb sr M r w W10 J z75 6 spy_n48 [(2,.slice (some ⟨b,o,none⟩) n cp),(6,.bool false),(8,(pt pb 0)),(10,(pt g.qb 0)),(12,(pt sb 0)),(14,(pt sr 0)),(18,i6 (i:Int)),(19,(pt W10.heap.size 0)),(20,.bool true),(113,(pt sb 0)),(114,(pt W10.heap.size 1)),(116,.agg (List.toArray (spy_v2 r))),(118,(pt sr 0)),(119,(pt W10.heap.size 1)),(121,.agg (List.toArray (spy_v2 r)))]:=by
    intro Wd hXd hmd
    exact holds_anyAll (l:=[2,7]) (by kernel_rfl) (by simp) ⟨eop spy_n58 (oA 2 1 1) spy_n22 [] [(W10.heap.size,1,1)] ⟨[(2,.slice (some ⟨b,o,none⟩) n cp),(6,.bool false),(8,(pt pb 0)),(10,(pt g.qb 0)),(12,(pt sb 0)),(14,(pt sr 0)),(18,i6 (i:Int)),(19,(pt W10.heap.size 0)),(20,.bool true),(113,(pt sb 0)),(115,i6 xa.stripe),(116,.agg (List.toArray (spy_v2 r))),(118,(pt sr 0)),(119,(pt W10.heap.size 1)),(121,.agg (List.toArray (spy_v2 r)))],(spy_83B stripes xa pb g sb sr r W10 z75),[],Wd.heap.size⟩ tI (A83_9 Wd hXd hmd),eop spy_n50 (oA 2 1 1) spy_n21 [] [(W10.heap.size,1,1)] ⟨[(2,.slice (some ⟨b,o,none⟩) n cp),(6,.bool false),(8,(pt pb 0)),(10,(pt g.qb 0)),(12,(pt sb 0)),(14,(pt sr 0)),(18,i6 (i:Int)),(19,(pt W10.heap.size 0)),(20,.bool true),(113,(pt sb 0)),(114,(pt W10.heap.size 1)),(116,.agg (List.toArray (spy_v2 r))),(118,(pt sr 0)),(120,i6 xa.stripe),(121,.agg (List.toArray (spy_v2 r)))],(spy_83B stripes xa pb g sb sr r W10 z75),[],Wd.heap.size⟩ tI (A83_11 Wd hXd hmd),tI⟩
   have A83_17:spy_83H0 stripes xa pb g sb sr M r w W10 J z75 6 spy_n44 [(2,.slice (some ⟨b,o,none⟩) n cp),(6,.bool false),(8,(pt pb 0)),(10,(pt g.qb 0)),(12,(pt sb 0)),(14,(pt sr 0)),(18,i6 (i:Int)),(19,(pt W10.heap.size 0)),(20,.bool true),(21,(pt z75 0)),(113,(pt sb 0)),(114,(pt W10.heap.size 1)),(118,(pt sr 0)),(120,i6 xa.stripe),(121,.agg (List.toArray (spy_v2 r)))]:=by
    intro Wd hXd hmd
    exact holds_anyAll (l:=[2,3]) (by kernel_rfl) (by simp) ⟨eop spy_n54 (oA 2 1 1) spy_n34 [] [(W10.heap.size,1,1)] ⟨[(2,.slice (some ⟨b,o,none⟩) n cp),(6,.bool false),(8,(pt pb 0)),(10,(pt g.qb 0)),(12,(pt sb 0)),(14,(pt sr 0)),(18,i6 (i:Int)),(19,(pt W10.heap.size 0)),(20,.bool true),(21,(pt z75 0)),(113,(pt sb 0)),(115,i6 xa.stripe),(118,(pt sr 0)),(120,i6 xa.stripe),(121,.agg (List.toArray (spy_v2 r)))],(spy_83B stripes xa pb g sb sr r W10 z75),[],Wd.heap.size⟩ tI (A83_10 Wd hXd hmd),eop spy_n50 (oA 3 0 10) spy_n21 [] [(z75,0,10)] ⟨[(2,.slice (some ⟨b,o,none⟩) n cp),(6,.bool false),(8,(pt pb 0)),(10,(pt g.qb 0)),(12,(pt sb 0)),(14,(pt sr 0)),(18,i6 (i:Int)),(19,(pt W10.heap.size 0)),(20,.bool true),(113,(pt sb 0)),(114,(pt W10.heap.size 1)),(116,.agg (List.toArray (spy_v2 r))),(118,(pt sr 0)),(120,i6 xa.stripe),(121,.agg (List.toArray (spy_v2 r)))],(spy_83B stripes xa pb g sb sr r W10 z75),[],Wd.heap.size⟩ tI (A83_11 Wd hXd hmd),tI⟩
   have A83_18:spy_83H0 stripes xa pb g sb sr M r w W10 J z75 7 spy_n51 [(2,.slice (some ⟨b,o,none⟩) n cp),(6,.bool false),(8,(pt pb 0)),(10,(pt g.qb 0)),(12,(pt sb 0)),(14,(pt sr 0)),(18,i6 (i:Int)),(19,(pt W10.heap.size 0)),(20,.bool true),(21,(pt z75 0)),(113,(pt sb 0)),(115,i6 xa.stripe),(118,(pt sr 0)),(119,(pt W10.heap.size 1))]:=by
    intro Wd hXd hmd
    exact holds_anyAll (l:=[3,7,8]) (by kernel_rfl) (by simp) ⟨eop spy_n57 (oA 3 0 10) spy_n31 [] [(z75,0,10)] ⟨[(2,.slice (some ⟨b,o,none⟩) n cp),(6,.bool false),(8,(pt pb 0)),(10,(pt g.qb 0)),(12,(pt sb 0)),(14,(pt sr 0)),(18,i6 (i:Int)),(19,(pt W10.heap.size 0)),(20,.bool true),(21,(pt z75 0)),(113,(pt sb 0)),(115,i6 xa.stripe),(116,.agg (List.toArray (spy_v2 r))),(118,(pt sr 0)),(119,(pt W10.heap.size 1))],(spy_83B stripes xa pb g sb sr r W10 z75),[],Wd.heap.size⟩ tI (A83_12 Wd hXd hmd),eop spy_n53 (oA 2 1 1) spy_n35 [] [(W10.heap.size,1,1)] ⟨[(2,.slice (some ⟨b,o,none⟩) n cp),(6,.bool false),(8,(pt pb 0)),(10,(pt g.qb 0)),(12,(pt sb 0)),(14,(pt sr 0)),(18,i6 (i:Int)),(19,(pt W10.heap.size 0)),(20,.bool true),(21,(pt z75 0)),(113,(pt sb 0)),(115,i6 xa.stripe),(118,(pt sr 0)),(120,i6 xa.stripe)],(spy_83B stripes xa pb g sb sr r W10 z75),[],Wd.heap.size⟩ tI (A83_13 Wd hXd hmd),eop spy_n52 (oA 3 0 10) spy_n33 [] [(z75,0,10)] ⟨[(2,.slice (some ⟨b,o,none⟩) n cp),(6,.bool false),(8,(pt pb 0)),(10,(pt g.qb 0)),(12,(pt sb 0)),(14,(pt sr 0)),(18,i6 (i:Int)),(19,(pt W10.heap.size 0)),(20,.bool true),(21,(pt z75 0)),(113,(pt sb 0)),(115,i6 xa.stripe),(118,(pt sr 0)),(119,(pt W10.heap.size 1)),(121,.agg (List.toArray (spy_v2 r)))],(spy_83B stripes xa pb g sb sr r W10 z75),[],Wd.heap.size⟩ tI (A83_14 Wd hXd hmd),tI⟩
   have A83_19:spy_83H0 stripes xa pb g sb sr M r w W10 J z75 7 spy_n47 [(2,.slice (some ⟨b,o,none⟩) n cp),(6,.bool false),(8,(pt pb 0)),(10,(pt g.qb 0)),(12,(pt sb 0)),(14,(pt sr 0)),(18,i6 (i:Int)),(19,(pt W10.heap.size 0)),(20,.bool true),(21,(pt z75 0)),(113,(pt sb 0)),(114,(pt W10.heap.size 1)),(116,.agg (List.toArray (spy_v2 r))),(118,(pt sr 0)),(119,(pt W10.heap.size 1))]:=by
    intro Wd hXd hmd
    exact holds_anyAll (l:=[2,7,8]) (by kernel_rfl) (by simp) ⟨eop spy_n57 (oA 2 1 1) spy_n31 [] [(W10.heap.size,1,1)] ⟨[(2,.slice (some ⟨b,o,none⟩) n cp),(6,.bool false),(8,(pt pb 0)),(10,(pt g.qb 0)),(12,(pt sb 0)),(14,(pt sr 0)),(18,i6 (i:Int)),(19,(pt W10.heap.size 0)),(20,.bool true),(21,(pt z75 0)),(113,(pt sb 0)),(115,i6 xa.stripe),(116,.agg (List.toArray (spy_v2 r))),(118,(pt sr 0)),(119,(pt W10.heap.size 1))],(spy_83B stripes xa pb g sb sr r W10 z75),[],Wd.heap.size⟩ tI (A83_12 Wd hXd hmd),eop spy_n49 (oA 2 1 1) spy_n29 [] [(W10.heap.size,1,1)] ⟨[(2,.slice (some ⟨b,o,none⟩) n cp),(6,.bool false),(8,(pt pb 0)),(10,(pt g.qb 0)),(12,(pt sb 0)),(14,(pt sr 0)),(18,i6 (i:Int)),(19,(pt W10.heap.size 0)),(20,.bool true),(21,(pt z75 0)),(113,(pt sb 0)),(114,(pt W10.heap.size 1)),(116,.agg (List.toArray (spy_v2 r))),(118,(pt sr 0)),(120,i6 xa.stripe)],(spy_83B stripes xa pb g sb sr r W10 z75),[],Wd.heap.size⟩ tI (A83_15 Wd hXd hmd),eop spy_n48 (oA 3 0 10) spy_n20 [] [(z75,0,10)] ⟨[(2,.slice (some ⟨b,o,none⟩) n cp),(6,.bool false),(8,(pt pb 0)),(10,(pt g.qb 0)),(12,(pt sb 0)),(14,(pt sr 0)),(18,i6 (i:Int)),(19,(pt W10.heap.size 0)),(20,.bool true),(113,(pt sb 0)),(114,(pt W10.heap.size 1)),(116,.agg (List.toArray (spy_v2 r))),(118,(pt sr 0)),(119,(pt W10.heap.size 1)),(121,.agg (List.toArray (spy_v2 r)))],(spy_83B stripes xa pb g sb sr r W10 z75),[],Wd.heap.size⟩ tI (A83_16 Wd hXd hmd),tI⟩
   have A83_20:spy_83H0 stripes xa pb g sb sr M r w W10 J z75 7 spy_n43 [(2,.slice (some ⟨b,o,none⟩) n cp),(6,.bool false),(8,(pt pb 0)),(10,(pt g.qb 0)),(12,(pt sb 0)),(14,(pt sr 0)),(18,i6 (i:Int)),(19,(pt W10.heap.size 0)),(20,.bool true),(21,(pt z75 0)),(113,(pt sb 0)),(114,(pt W10.heap.size 1)),(118,(pt sr 0)),(120,i6 xa.stripe)]:=by
    intro Wd hXd hmd
    exact holds_anyAll (l:=[2,3,8]) (by kernel_rfl) (by simp) ⟨eop spy_n53 (oA 2 1 1) spy_n35 [] [(W10.heap.size,1,1)] ⟨[(2,.slice (some ⟨b,o,none⟩) n cp),(6,.bool false),(8,(pt pb 0)),(10,(pt g.qb 0)),(12,(pt sb 0)),(14,(pt sr 0)),(18,i6 (i:Int)),(19,(pt W10.heap.size 0)),(20,.bool true),(21,(pt z75 0)),(113,(pt sb 0)),(115,i6 xa.stripe),(118,(pt sr 0)),(120,i6 xa.stripe)],(spy_83B stripes xa pb g sb sr r W10 z75),[],Wd.heap.size⟩ tI (A83_13 Wd hXd hmd),eop spy_n49 (oA 3 0 10) spy_n29 [] [(z75,0,10)] ⟨[(2,.slice (some ⟨b,o,none⟩) n cp),(6,.bool false),(8,(pt pb 0)),(10,(pt g.qb 0)),(12,(pt sb 0)),(14,(pt sr 0)),(18,i6 (i:Int)),(19,(pt W10.heap.size 0)),(20,.bool true),(21,(pt z75 0)),(113,(pt sb 0)),(114,(pt W10.heap.size 1)),(116,.agg (List.toArray (spy_v2 r))),(118,(pt sr 0)),(120,i6 xa.stripe)],(spy_83B stripes xa pb g sb sr r W10 z75),[],Wd.heap.size⟩ tI (A83_15 Wd hXd hmd),eop spy_n44 (oA 3 0 10) spy_n30 [] [(z75,0,10)] ⟨[(2,.slice (some ⟨b,o,none⟩) n cp),(6,.bool false),(8,(pt pb 0)),(10,(pt g.qb 0)),(12,(pt sb 0)),(14,(pt sr 0)),(18,i6 (i:Int)),(19,(pt W10.heap.size 0)),(20,.bool true),(21,(pt z75 0)),(113,(pt sb 0)),(114,(pt W10.heap.size 1)),(118,(pt sr 0)),(120,i6 xa.stripe),(121,.agg (List.toArray (spy_v2 r)))],(spy_83B stripes xa pb g sb sr r W10 z75),[],Wd.heap.size⟩ tI (A83_17 Wd hXd hmd),tI⟩
   have A83_21:spy_83H0 stripes xa pb g sb sr M r w W10 J z75 7 spy_n42 [(2,.slice (some ⟨b,o,none⟩) n cp),(6,.bool false),(8,(pt pb 0)),(10,(pt g.qb 0)),(12,(pt sb 0)),(14,(pt sr 0)),(18,i6 (i:Int)),(19,(pt W10.heap.size 0)),(20,.bool true),(21,(pt z75 0)),(113,(pt sb 0)),(114,(pt W10.heap.size 1)),(118,(pt sr 0)),(119,(pt W10.heap.size 1)),(121,.agg (List.toArray (spy_v2 r)))]:=by
    intro Wd hXd hmd
    exact holds_anyAll (l:=[2,3,7]) (by kernel_rfl) (by simp) ⟨eop spy_n52 (oA 2 1 1) spy_n33 [] [(W10.heap.size,1,1)] ⟨[(2,.slice (some ⟨b,o,none⟩) n cp),(6,.bool false),(8,(pt pb 0)),(10,(pt g.qb 0)),(12,(pt sb 0)),(14,(pt sr 0)),(18,i6 (i:Int)),(19,(pt W10.heap.size 0)),(20,.bool true),(21,(pt z75 0)),(113,(pt sb 0)),(115,i6 xa.stripe),(118,(pt sr 0)),(119,(pt W10.heap.size 1)),(121,.agg (List.toArray (spy_v2 r)))],(spy_83B stripes xa pb g sb sr r W10 z75),[],Wd.heap.size⟩ tI (A83_14 Wd hXd hmd),eop spy_n48 (oA 3 0 10) spy_n20 [] [(z75,0,10)] ⟨[(2,.slice (some ⟨b,o,none⟩) n cp),(6,.bool false),(8,(pt pb 0)),(10,(pt g.qb 0)),(12,(pt sb 0)),(14,(pt sr 0)),(18,i6 (i:Int)),(19,(pt W10.heap.size 0)),(20,.bool true),(113,(pt sb 0)),(114,(pt W10.heap.size 1)),(116,.agg (List.toArray (spy_v2 r))),(118,(pt sr 0)),(119,(pt W10.heap.size 1)),(121,.agg (List.toArray (spy_v2 r)))],(spy_83B stripes xa pb g sb sr r W10 z75),[],Wd.heap.size⟩ tI (A83_16 Wd hXd hmd),eop spy_n44 (oA 2 1 1) spy_n30 [] [(W10.heap.size,1,1)] ⟨[(2,.slice (some ⟨b,o,none⟩) n cp),(6,.bool false),(8,(pt pb 0)),(10,(pt g.qb 0)),(12,(pt sb 0)),(14,(pt sr 0)),(18,i6 (i:Int)),(19,(pt W10.heap.size 0)),(20,.bool true),(21,(pt z75 0)),(113,(pt sb 0)),(114,(pt W10.heap.size 1)),(118,(pt sr 0)),(120,i6 xa.stripe),(121,.agg (List.toArray (spy_v2 r)))],(spy_83B stripes xa pb g sb sr r W10 z75),[],Wd.heap.size⟩ tI (A83_17 Wd hXd hmd),tI⟩
   have A83_22:spy_83H0 stripes xa pb g sb sr M r w W10 J z75 8 spy_n41 [(2,.slice (some ⟨b,o,none⟩) n cp),(6,.bool false),(8,(pt pb 0)),(10,(pt g.qb 0)),(12,(pt sb 0)),(14,(pt sr 0)),(18,i6 (i:Int)),(19,(pt W10.heap.size 0)),(20,.bool true),(21,(pt z75 0)),(113,(pt sb 0)),(114,(pt W10.heap.size 1)),(118,(pt sr 0)),(119,(pt W10.heap.size 1))]:=by
    intro Wd hXd hmd
    exact holds_anyAll (l:=[2,3,7,8]) (by kernel_rfl) (by simp) ⟨eop spy_n51 (oA 2 1 1) [2,6,8,10,12,14,18,19,20,21,113,115,118,119] [] [(W10.heap.size,1,1)] ⟨[(2,.slice (some ⟨b,o,none⟩) n cp),(6,.bool false),(8,(pt pb 0)),(10,(pt g.qb 0)),(12,(pt sb 0)),(14,(pt sr 0)),(18,i6 (i:Int)),(19,(pt W10.heap.size 0)),(20,.bool true),(21,(pt z75 0)),(113,(pt sb 0)),(115,i6 xa.stripe),(118,(pt sr 0)),(119,(pt W10.heap.size 1))],(spy_83B stripes xa pb g sb sr r W10 z75),[],Wd.heap.size⟩ tI (A83_18 Wd hXd hmd),eop spy_n47 (oA 3 0 10) [2,6,8,10,12,14,18,19,20,21,113,114,116,118,119] [] [(z75,0,10)] ⟨[(2,.slice (some ⟨b,o,none⟩) n cp),(6,.bool false),(8,(pt pb 0)),(10,(pt g.qb 0)),(12,(pt sb 0)),(14,(pt sr 0)),(18,i6 (i:Int)),(19,(pt W10.heap.size 0)),(20,.bool true),(21,(pt z75 0)),(113,(pt sb 0)),(114,(pt W10.heap.size 1)),(116,.agg (List.toArray (spy_v2 r))),(118,(pt sr 0)),(119,(pt W10.heap.size 1))],(spy_83B stripes xa pb g sb sr r W10 z75),[],Wd.heap.size⟩ tI (A83_19 Wd hXd hmd),eop spy_n43 (oA 2 1 1) [2,6,8,10,12,14,18,19,20,21,113,114,118,120] [] [(W10.heap.size,1,1)] ⟨[(2,.slice (some ⟨b,o,none⟩) n cp),(6,.bool false),(8,(pt pb 0)),(10,(pt g.qb 0)),(12,(pt sb 0)),(14,(pt sr 0)),(18,i6 (i:Int)),(19,(pt W10.heap.size 0)),(20,.bool true),(21,(pt z75 0)),(113,(pt sb 0)),(114,(pt W10.heap.size 1)),(118,(pt sr 0)),(120,i6 xa.stripe)],(spy_83B stripes xa pb g sb sr r W10 z75),[],Wd.heap.size⟩ tI (A83_20 Wd hXd hmd),eop spy_n42 (oA 3 0 10) [2,6,8,10,12,14,18,19,20,21,113,114,118,119,121] [] [(z75,0,10)] ⟨[(2,.slice (some ⟨b,o,none⟩) n cp),(6,.bool false),(8,(pt pb 0)),(10,(pt g.qb 0)),(12,(pt sb 0)),(14,(pt sr 0)),(18,i6 (i:Int)),(19,(pt W10.heap.size 0)),(20,.bool true),(21,(pt z75 0)),(113,(pt sb 0)),(114,(pt W10.heap.size 1)),(118,(pt sr 0)),(119,(pt W10.heap.size 1)),(121,.agg (List.toArray (spy_v2 r)))],(spy_83B stripes xa pb g sb sr r W10 z75),[],Wd.heap.size⟩ tI (A83_21 Wd hXd hmd),tI⟩
   exact A83_22 W24 ⟨hP24,hR24⟩ hm24
  intro W25 hXW25 hmW25
  obtain ⟨hP25,hR25⟩:=hXW25
  have hm25:=hmW25
  refine hgE 6 [] spy_n38 [] [] [.ops spy_n11 spy_n1,.code spy_n14,.blk 1,.code spy_n16,.inv J,.blk 0,.code spy_n19] ⟨[(2,.slice (some ⟨b,o,none⟩) n cp),(6,.bool false),(8,(pt pb 0)),(10,(pt g.qb 0)),(12,(pt sb 0)),(14,(pt sr 0)),(18,i6 (i:Int)),(19,(pt W10.heap.size 0)),(20,.bool ((setGE stripes M xa.stripe r) == (setGE stripes M xa.stripe r)))],(spy_b3 stripes xa pb g sb sr r W10 z75),[],W25.heap.size⟩ ?_
  rw [show ((setGE stripes M xa.stripe r) == (setGE stripes M xa.stripe r)) = true by simp]
  refine holds_prune spy_n38 [true,true,true,false] ?_
  exact holds_ground [true,true,true] rfl (fun W hm hmW=>HX40 W (setGP stripes M xa.stripe r) (mine_setG stripes M pb xa.stripe r) (setG_n stripes M xa.stripe r) (by have h:=acts_setG stripes M xa.stripe r; omega) (hP25.kept hm.kept (fun x hx=>hnT x (Nat.lt_of_lt_of_le (hMi x (by have h:=mine_setG stripes M pb xa.stripe r; rw [h] at hx; exact hx)).2 hAB))) (hR25.kept hm.kept (fun x hx=>hnT x (hGi x hx).2)) (MemOk.back2 hm25 hmW))
 clear hnT hnB hP11 hR11 hm11
 intro W50 M2 hmi2 hnn2 hac2 hP50 hR50 hm50
 have hw50:=hm50.kept.size
 rw [← hmi2] at hMi
 obtain ⟨R2,hRf2,hSf2⟩:=hR50
 have hR50:RefAt 99 9 4 W50 g M2:=⟨R2,hRf2,hSf2⟩
 have hnT:∀ x,x < zB → ¬ Turned (spy_b2 stripes xa pb g sb sr W10) x:=by
  rintro x hx ⟨b,hb,hr,he⟩
  simp at hb
  rcases hb with rfl | rfl | rfl <;> simp at he hr <;> omega
 have hnB:∀ b ∈ ((spy_b2 stripes xa pb g sb sr W10):List Bk),zB ≤ b.g:=by
  intro b hb
  simp at hb
  rcases hb with rfl | rfl | rfl <;> simp <;> omega
 refine hgE 6 [oh0,oh0,(oA 2 1 1)] [2,6,8,10,12,14,18,19,20,178,180] [] [(W10.heap.size,1,1)] [.ops spy_n11 [3,4,5,6,7,8,9],.code spy_n14,.blk 1,.code spy_n16,.inv J,.blk 0,.code spy_n19] ⟨[(2,.slice (some ⟨b,o,none⟩) n cp),(6,.bool false),(8,(pt pb 0)),(10,(pt g.qb 0)),(12,(pt sb 0)),(14,(pt sr 0)),(18,i6 (i:Int)),(19,(pt W10.heap.size 0)),(20,.bool true),(178,(pt sb 0)),(180,i6 xa.stripe)],(spy_b2 stripes xa pb g sb sr W10),[],W50.heap.size⟩ ?_
 refine hcp (.tuple #[.agg (List.toArray (spy_v4 stripes xa M2)),i6 (getGE stripes M2 xa.stripe)]) 23 [(pt sb 0),i6 xa.stripe] (some 181) [] tI rfl (fun wx hm=>getG_pl M2 sb pb stripes xa.stripe (by omega) wx (hP50.kept hm.kept (fun x hx=>hnT x (Nat.lt_of_lt_of_le (hMi x hx).2 hAB))) (hm.at_ 0 rfl)) fun z86 hz86=>?_
 replace hz86:W50.heap.size ≤ z86:=hz86
 refine hgE 15 [oh0,oh0,oh0,oh0,(oA 3 0 10),oh0,oh0,oh0,(oA 2 1 1)] [2,6,8,10,12,14,18,20,23,24,185,187] [] [(z86,0,10),(W10.heap.size,1,1)] [.ops [1,1,1,1,1,1,1,1,1,1,0,1,0,0,1,0,0,1,1,1,1,0] [3,4,5,6,7,8,9],.code [1,1,1,1,1,1,1,1,1,1,0,1,0,0,1,0,0,1,1,1,1,1],.blk 1,.code spy_n16,.inv J,.blk 0,.code spy_n19] ⟨[(2,.slice (some ⟨b,o,none⟩) n cp),(6,.bool false),(8,(pt pb 0)),(10,(pt g.qb 0)),(12,(pt sb 0)),(14,(pt sr 0)),(18,i6 (i:Int)),(20,.bool true),(23,(pt z86 0)),(24,i6 (getGE stripes M2 xa.stripe)),(185,(pt sr 0)),(187,i6 xa.stripe)],[⟨sb,92,false,[(pt pb 0),i6 stripes]⟩,⟨sr,102,false,[(pt g.qb 0),i6 stripes]⟩,⟨W10.heap.size,68,true,(spy_v1 xa)⟩,⟨z86,25,true,(spy_v4 stripes xa M2)⟩],[],z86 + 1⟩ ?_
 refine hcp (.tuple #[.agg (List.toArray (spy_v4 stripes xa M2)),i6 (getGE stripes M2 xa.stripe)]) 39 [(pt sr 0),i6 xa.stripe] (some 188) [] tI rfl (fun wx hm=>rgetG_pl M2 g hgk sr stripes xa.stripe (by omega) wx ⟨R2,(hRf2.kept hm.kept (fun x hx=>hnT x (hGi x hx).2)),hSf2⟩ (hm.at_ 1 rfl)) fun z88 hz88=>?_
 replace hz88:z86 + 1 ≤ z88:=hz88
 refine hgE 26 [oh0,oh0,oh0,oh0,(oA 4 0 10),oh0,oh0,oh0,oh0,(oA 3 0 10),(oA 4 0 10),oh2,⟨false,3,[]⟩,oh0,oh0,oh0,oh0,⟨false,3,[]⟩,oh0,oh0] [2,6,8,10,12,14,18,203,204] [fF,fF,fF,vV,fF,oE ((!(((((getGR stripes M2 xa.stripe).used) == ((getGR stripes M2 xa.stripe).used)) && (((((getGR stripes M2 xa.stripe).fence):Int) == ((getGR stripes M2 xa.stripe).fence)) && ((((((getGR stripes M2 xa.stripe).de):Int) == ((getGR stripes M2 xa.stripe).de)) && (((((getGR stripes M2 xa.stripe).ds):Int) == ((getGR stripes M2 xa.stripe).ds)) && true)) && (((((getGR stripes M2 xa.stripe).block):ByteArray) == ((getGR stripes M2 xa.stripe).block)) && ((((getGR stripes M2 xa.stripe).op) == ((getGR stripes M2 xa.stripe).op)) && ((((((getGR stripes M2 xa.stripe).ie):Int) == ((getGR stripes M2 xa.stripe).ie)) && (((((getGR stripes M2 xa.stripe).is):Int) == ((getGR stripes M2 xa.stripe).is)) && true)) && (((((getGR stripes M2 xa.stripe).mask):Int) == ((getGR stripes M2 xa.stripe).mask)) && (((((getGR stripes M2 xa.stripe).staged):ByteArray) == ((getGR stripes M2 xa.stripe).staged)) && true)))))))))) = false) (by rw [show (((((getGR stripes M2 xa.stripe).used) == ((getGR stripes M2 xa.stripe).used)) && (((((getGR stripes M2 xa.stripe).fence):Int) == ((getGR stripes M2 xa.stripe).fence)) && ((((((getGR stripes M2 xa.stripe).de):Int) == ((getGR stripes M2 xa.stripe).de)) && (((((getGR stripes M2 xa.stripe).ds):Int) == ((getGR stripes M2 xa.stripe).ds)) && true)) && (((((getGR stripes M2 xa.stripe).block):ByteArray) == ((getGR stripes M2 xa.stripe).block)) && ((((getGR stripes M2 xa.stripe).op) == ((getGR stripes M2 xa.stripe).op)) && ((((((getGR stripes M2 xa.stripe).ie):Int) == ((getGR stripes M2 xa.stripe).ie)) && (((((getGR stripes M2 xa.stripe).is):Int) == ((getGR stripes M2 xa.stripe).is)) && true)) && (((((getGR stripes M2 xa.stripe).mask):Int) == ((getGR stripes M2 xa.stripe).mask)) && (((((getGR stripes M2 xa.stripe).staged):ByteArray) == ((getGR stripes M2 xa.stripe).staged)) && true))))))))) = true from by simp [bytes_beq]]; rfl),oE ((!(((((getGR stripes M2 xa.stripe).used) == ((getGR stripes M2 xa.stripe).used)) && (((((getGR stripes M2 xa.stripe).fence):Int) == ((getGR stripes M2 xa.stripe).fence)) && ((((((getGR stripes M2 xa.stripe).de):Int) == ((getGR stripes M2 xa.stripe).de)) && (((((getGR stripes M2 xa.stripe).ds):Int) == ((getGR stripes M2 xa.stripe).ds)) && true)) && (((((getGR stripes M2 xa.stripe).block):ByteArray) == ((getGR stripes M2 xa.stripe).block)) && ((((getGR stripes M2 xa.stripe).op) == ((getGR stripes M2 xa.stripe).op)) && ((((((getGR stripes M2 xa.stripe).ie):Int) == ((getGR stripes M2 xa.stripe).ie)) && (((((getGR stripes M2 xa.stripe).is):Int) == ((getGR stripes M2 xa.stripe).is)) && true)) && (((((getGR stripes M2 xa.stripe).mask):Int) == ((getGR stripes M2 xa.stripe).mask)) && (((((getGR stripes M2 xa.stripe).staged):ByteArray) == ((getGR stripes M2 xa.stripe).staged)) && true)))))))))) = false) (by rw [show (((((getGR stripes M2 xa.stripe).used) == ((getGR stripes M2 xa.stripe).used)) && (((((getGR stripes M2 xa.stripe).fence):Int) == ((getGR stripes M2 xa.stripe).fence)) && ((((((getGR stripes M2 xa.stripe).de):Int) == ((getGR stripes M2 xa.stripe).de)) && (((((getGR stripes M2 xa.stripe).ds):Int) == ((getGR stripes M2 xa.stripe).ds)) && true)) && (((((getGR stripes M2 xa.stripe).block):ByteArray) == ((getGR stripes M2 xa.stripe).block)) && ((((getGR stripes M2 xa.stripe).op) == ((getGR stripes M2 xa.stripe).op)) && ((((((getGR stripes M2 xa.stripe).ie):Int) == ((getGR stripes M2 xa.stripe).ie)) && (((((getGR stripes M2 xa.stripe).is):Int) == ((getGR stripes M2 xa.stripe).is)) && true)) && (((((getGR stripes M2 xa.stripe).mask):Int) == ((getGR stripes M2 xa.stripe).mask)) && (((((getGR stripes M2 xa.stripe).staged):ByteArray) == ((getGR stripes M2 xa.stripe).staged)) && true))))))))) = true from by simp [bytes_beq]]; rfl),oE ((!(((((getGR stripes M2 xa.stripe).used) == ((getGR stripes M2 xa.stripe).used)) && (((((getGR stripes M2 xa.stripe).fence):Int) == ((getGR stripes M2 xa.stripe).fence)) && ((((((getGR stripes M2 xa.stripe).de):Int) == ((getGR stripes M2 xa.stripe).de)) && (((((getGR stripes M2 xa.stripe).ds):Int) == ((getGR stripes M2 xa.stripe).ds)) && true)) && (((((getGR stripes M2 xa.stripe).block):ByteArray) == ((getGR stripes M2 xa.stripe).block)) && ((((getGR stripes M2 xa.stripe).op) == ((getGR stripes M2 xa.stripe).op)) && ((((((getGR stripes M2 xa.stripe).ie):Int) == ((getGR stripes M2 xa.stripe).ie)) && (((((getGR stripes M2 xa.stripe).is):Int) == ((getGR stripes M2 xa.stripe).is)) && true)) && (((((getGR stripes M2 xa.stripe).mask):Int) == ((getGR stripes M2 xa.stripe).mask)) && (((((getGR stripes M2 xa.stripe).staged):ByteArray) == ((getGR stripes M2 xa.stripe).staged)) && true)))))))))) = false) (by rw [show (((((getGR stripes M2 xa.stripe).used) == ((getGR stripes M2 xa.stripe).used)) && (((((getGR stripes M2 xa.stripe).fence):Int) == ((getGR stripes M2 xa.stripe).fence)) && ((((((getGR stripes M2 xa.stripe).de):Int) == ((getGR stripes M2 xa.stripe).de)) && (((((getGR stripes M2 xa.stripe).ds):Int) == ((getGR stripes M2 xa.stripe).ds)) && true)) && (((((getGR stripes M2 xa.stripe).block):ByteArray) == ((getGR stripes M2 xa.stripe).block)) && ((((getGR stripes M2 xa.stripe).op) == ((getGR stripes M2 xa.stripe).op)) && ((((((getGR stripes M2 xa.stripe).ie):Int) == ((getGR stripes M2 xa.stripe).ie)) && (((((getGR stripes M2 xa.stripe).is):Int) == ((getGR stripes M2 xa.stripe).is)) && true)) && (((((getGR stripes M2 xa.stripe).mask):Int) == ((getGR stripes M2 xa.stripe).mask)) && (((((getGR stripes M2 xa.stripe).staged):ByteArray) == ((getGR stripes M2 xa.stripe).staged)) && true))))))))) = true from by simp [bytes_beq]]; rfl),oE ((!(((((getGR stripes M2 xa.stripe).used) == ((getGR stripes M2 xa.stripe).used)) && (((((getGR stripes M2 xa.stripe).fence):Int) == ((getGR stripes M2 xa.stripe).fence)) && ((((((getGR stripes M2 xa.stripe).de):Int) == ((getGR stripes M2 xa.stripe).de)) && (((((getGR stripes M2 xa.stripe).ds):Int) == ((getGR stripes M2 xa.stripe).ds)) && true)) && (((((getGR stripes M2 xa.stripe).block):ByteArray) == ((getGR stripes M2 xa.stripe).block)) && ((((getGR stripes M2 xa.stripe).op) == ((getGR stripes M2 xa.stripe).op)) && ((((((getGR stripes M2 xa.stripe).ie):Int) == ((getGR stripes M2 xa.stripe).ie)) && (((((getGR stripes M2 xa.stripe).is):Int) == ((getGR stripes M2 xa.stripe).is)) && true)) && (((((getGR stripes M2 xa.stripe).mask):Int) == ((getGR stripes M2 xa.stripe).mask)) && (((((getGR stripes M2 xa.stripe).staged):ByteArray) == ((getGR stripes M2 xa.stripe).staged)) && true)))))))))) = false) (by rw [show (((((getGR stripes M2 xa.stripe).used) == ((getGR stripes M2 xa.stripe).used)) && (((((getGR stripes M2 xa.stripe).fence):Int) == ((getGR stripes M2 xa.stripe).fence)) && ((((((getGR stripes M2 xa.stripe).de):Int) == ((getGR stripes M2 xa.stripe).de)) && (((((getGR stripes M2 xa.stripe).ds):Int) == ((getGR stripes M2 xa.stripe).ds)) && true)) && (((((getGR stripes M2 xa.stripe).block):ByteArray) == ((getGR stripes M2 xa.stripe).block)) && ((((getGR stripes M2 xa.stripe).op) == ((getGR stripes M2 xa.stripe).op)) && ((((((getGR stripes M2 xa.stripe).ie):Int) == ((getGR stripes M2 xa.stripe).ie)) && (((((getGR stripes M2 xa.stripe).is):Int) == ((getGR stripes M2 xa.stripe).is)) && true)) && (((((getGR stripes M2 xa.stripe).mask):Int) == ((getGR stripes M2 xa.stripe).mask)) && (((((getGR stripes M2 xa.stripe).staged):ByteArray) == ((getGR stripes M2 xa.stripe).staged)) && true))))))))) = true from by simp [bytes_beq]]; rfl),oE (((getGE stripes M2 xa.stripe) != (getGE stripes M2 xa.stripe)) = false) (by simp)] [(z88,0,10),(z86,0,10),(z88,0,10)] [.ops spy_n12 [14,15,16,17,18,19,20,21,22,23,24,25],.code spy_n13,.blk 1,.code spy_n16,.inv J,.blk 0,.code spy_n19] ⟨[(2,.slice (some ⟨b,o,none⟩) n cp),(6,.bool false),(8,(pt pb 0)),(10,(pt g.qb 0)),(12,(pt sb 0)),(14,(pt sr 0)),(18,i6 (i:Int)),(203,.bool ((getGE stripes M2 xa.stripe) != (getGE stripes M2 xa.stripe))),(204,(pt pb 0))],(spy_b5 stripes xa pb g sb sr M2 W10 z86 z88),[],z88 + 1⟩ ?_
 refine hcp (i6 M2.acts) 40 [(pt pb 0)] (some 205) [((getGE stripes M2 xa.stripe) != (getGE stripes M2 xa.stripe)) = false] ⟨by simp,tI⟩ rfl (fun wx hm=>acts_pl M2 pb wx (hP50.kept hm.kept (fun x hx=>hnT x (Nat.lt_of_lt_of_le (hMi x hx).2 hAB)))) fun z90 hz90=>?_
 replace hz90:z88 + 1 ≤ z90:=hz90
 refine hgE 4 [oh0] [2,6,8,10,12,14,18,203,205,206] [oE (((getGE stripes M2 xa.stripe) != (getGE stripes M2 xa.stripe)) = false) (by simp)] [] [.ops spy_n12 [16,17,18,19,20,21,22,23,24,25],.code spy_n13,.blk 1,.code spy_n16,.inv J,.blk 0,.code spy_n19] ⟨[(2,.slice (some ⟨b,o,none⟩) n cp),(6,.bool false),(8,(pt pb 0)),(10,(pt g.qb 0)),(12,(pt sb 0)),(14,(pt sr 0)),(18,i6 (i:Int)),(203,.bool ((getGE stripes M2 xa.stripe) != (getGE stripes M2 xa.stripe))),(205,i6 M2.acts),(206,(pt g.qb 0))],(spy_b5 stripes xa pb g sb sr M2 W10 z86 z88),[],z90⟩ ?_
 refine hcp (i6 M2.acts) 41 [(pt g.qb 0)] (some 207) [((getGE stripes M2 xa.stripe) != (getGE stripes M2 xa.stripe)) = false] ⟨by simp,tI⟩ rfl (fun wx hm=>racts_pl g M2 R2 hSf2 wx (hRf2.kept hm.kept (fun x hx=>hnT x (hGi x hx).2))) fun z92 hz92=>?_
 replace hz92:z90 ≤ z92:=hz92
 refine hgE 7 [oh0,⟨false,3,[]⟩,oh0,oh0] [2,6,8,10,12,14,18,210,211] [oE (((getGE stripes M2 xa.stripe) != (getGE stripes M2 xa.stripe)) = false) (by simp),oE (((getGE stripes M2 xa.stripe) != (getGE stripes M2 xa.stripe)) = false) (by simp),oE ((M2.acts != M2.acts) = false) (by simp)] [] [.ops spy_n12 [21,22,23,24,25],.code spy_n13,.blk 1,.code spy_n16,.inv J,.blk 0,.code spy_n19] ⟨[(2,.slice (some ⟨b,o,none⟩) n cp),(6,.bool false),(8,(pt pb 0)),(10,(pt g.qb 0)),(12,(pt sb 0)),(14,(pt sr 0)),(18,i6 (i:Int)),(210,.bool (M2.acts != M2.acts)),(211,(pt pb 0))],(spy_b5 stripes xa pb g sb sr M2 W10 z86 z88),[],z92⟩ ?_
 refine hcp (.bool M2.off) 27 [(pt pb 0)] (some 212) [(M2.acts != M2.acts) = false] ⟨by simp,tI⟩ rfl (fun wx hm=>off_pl M2 pb wx (hP50.kept hm.kept (fun x hx=>hnT x (Nat.lt_of_lt_of_le (hMi x hx).2 hAB)))) fun z94 hz94=>?_
 replace hz94:z92 ≤ z94:=hz94
 refine hgE 4 [oh0] [2,6,8,10,12,14,18,210,212,213] [oE ((M2.acts != M2.acts) = false) (by simp)] [] [.ops spy_n12 [23,24,25],.code spy_n13,.blk 1,.code spy_n16,.inv J,.blk 0,.code spy_n19] ⟨[(2,.slice (some ⟨b,o,none⟩) n cp),(6,.bool false),(8,(pt pb 0)),(10,(pt g.qb 0)),(12,(pt sb 0)),(14,(pt sr 0)),(18,i6 (i:Int)),(210,.bool (M2.acts != M2.acts)),(212,.bool M2.off),(213,(pt g.qb 0))],(spy_b5 stripes xa pb g sb sr M2 W10 z86 z88),[],z94⟩ ?_
 refine hcp (.bool M2.off) 42 [(pt g.qb 0)] (some 214) [(M2.acts != M2.acts) = false] ⟨by simp,tI⟩ rfl (fun wx hm=>roff_pl g M2 R2 hSf2 wx (hRf2.kept hm.kept (fun x hx=>hnT x (hGi x hx).2))) fun z96 hz96=>?_
 replace hz96:z94 ≤ z96:=hz96
 refine hgE 14 [oh0,⟨false,3,[]⟩,oh0,oh0,oh2,oh0] [2,6,8,10,12,14,18] [oE ((M2.acts != M2.acts) = false) (by simp),oE ((M2.acts != M2.acts) = false) (by simp),oE ((!(M2.off == M2.off)) = false) (by rw [show (M2.off == M2.off) = true from by simp]; rfl),n64 (((i:Int) + 1))] [] [.inv J,.blk 0,.code spy_n19] ⟨[(2,.slice (some ⟨b,o,none⟩) n cp),(6,.bool false),(8,(pt pb 0)),(10,(pt g.qb 0)),(12,(pt sb 0)),(14,(pt sr 0)),(18,i6 ((i:Int) + 1))],(spy_b5 stripes xa pb g sb sr M2 W10 z86 z88),[],z96⟩ ?_
 refine holds_prune [2,6,8,10,12,14,18] [true,true,false,false,false] ?_
 intro a_ w4 hf hm
 exact hJ (m - 1) _ a_ w4 (by omega) ⟨i + 1,M2,_,by omega,by rw [hmi2,hmn],by rw [hnn2,hMn],by omega,(hP50.kept hm.kept (fun x hx=>hnT x (Nat.lt_of_lt_of_le (hMi x hx).2 hAB))),(hR50.kept hm.kept (fun x hx=>hnT x (hGi x hx).2)),by rw [← cast_succ i]; rfl⟩ hf (MemOk.back2 hm50 hm)
end Go.Proofs.Ytpilmccjjbgmiaa
