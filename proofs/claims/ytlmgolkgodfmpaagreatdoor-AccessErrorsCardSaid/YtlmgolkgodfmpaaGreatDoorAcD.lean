/- Several texts in one: AcB AcC AcD. -/
import Derived.Test.YtlmgolkgodfmpaaGreatDoorAcA
import Derived.Test.YtlmgolkgodfmpaaGreatDoorSaL
import Derived.Deep.RegionHeld3
import Derived.Test.YtlmgolkgodfmpaaGreatDoorDsW
section
/- Contracts of package access: Best. -/
namespace Go.Proofs.YtlmgolkgodfmpaaGreatDoor
open Go.RowKit
set_option maxHeartbeats 40000000
set_option maxRecDepth 8000
attribute [local go_sem ↓] ldEnt stEnt stEntRow ldEntM
attribute [local go_sem] Held_drew isHead_mk headOf_mk offOf_mk isPtr_mk cellsOfV_mk isAggV_mk row_new row_new2 row_new2' row_drew row_drewN vals_size allOne_nil allOne_cons one_int one_bool one_string one_pointer one_slice vals_0 vals_1 vals_32
theorem va_ef (x:Ef) (a1:Option Addr) (c1:Nat) (gr:Value) (w:World) (hk:x.e.kind=4) (hm:MaxL w) (hg:GS w gr x.gs) :
  Calls Tryz.prog 10 #[.agg (x.e.vals (.slice a1 x.n1 c1) gr)] w fun r w'=>r=.returned (.bool (okQ x))∧Below w.heap.size w w':=by
 by_cases h0:x.n1=0
 · have h:=va_kind4 x.e (.slice a1 x.n1 c1) gr [] x.gs w hk hm ⟨a1,c1,by rw[h0];rfl,by decide,fun h=>by simp at h⟩ hg
   have e:=okQ_okX x [] hk (by rw[h0];rfl)
   unfold okX at e
   simp only at e
   rw[if_neg (by omega),if_neg (by omega),if_neg (by omega),if_neg (by omega),if_pos hk] at e
   rw[← e];exact h
 · have h:=va_long x.e gr a1 x.n1 c1 x.gs w h0 hk hm hg
   have e:okQ x=false:=by unfold okQ;rw[decide_eq_false h0,Bool.and_false,Bool.and_false,Bool.and_false]
   rw[e];exact h
def BI2 (nm:List UInt8) (F:Nat→Ef) (k:Nat) (j:Int):Prop:=(best nm (lst F k)=none∧j=-1)∨∃ i:Nat,j=i∧i<k∧best nm (lst F k)=some (F i)
theorem BI2.keep {nm:List UInt8} {F:Nat→Ef} {k:Nat} {j:Int} (h:BI2 nm F k j) (hh:hits nm (F k)=false∨ahead (F k) (best nm (lst F k))=false):BI2 nm F (k+1) j:=by
 have e:best nm (lst F (k+1))=best nm (lst F k):=by
  rw[lst_succ,best_snoc]
  unfold bstep
  rw[if_neg (by rcases hh with h | h <;> simp [h])]
 unfold BI2
 rw[e]
 rcases h with h | ⟨i,h1,h2,h3⟩
 · exact Or.inl h
 · exact Or.inr ⟨i,h1,by omega,h3⟩
theorem BI2.take {nm:List UInt8} {F:Nat→Ef} {k:Nat} (h1:hits nm (F k)=true) (h2:ahead (F k) (best nm (lst F k))=true):BI2 nm F (k+1) (k:Int):=by
 refine Or.inr ⟨k,rfl,by omega,?_⟩
 rw[lst_succ,best_snoc]
 unfold bstep
 rw[if_pos ⟨h1,h2⟩]
def zE:Array Value:=zlit 0 ⟨#[]⟩
def BW (w wr:World):Prop:=EB wr w.heap.size zE∧Below w.heap.size w wr
theorem BW.below {w wr w':World} (h:BW w wr) (hb:Below wr.heap.size wr w'):BW w w' :=
 ⟨h.1.of_block (hb.block _ h.1.2.2) hb.size,bt h.2 hb⟩
theorem BW.after {w wr w':World} {o:Obj} (h:BW w wr) (hb:Below (wr.alloc o).heap.size (wr.alloc o) w'):BW w w':=h.below (below1 hb)
theorem keepA {W w1 w2:World} {g:Nat} {cs:Array Value} {p0 p1:Addr} {v0 v1:Value} (hb:Below w1.heap.size w1 w2) (s:row w1 g=cs∧w1.cell? p0=some v0∧w1.cell? p1=some v1∧Below W.heap.size W w1) (h0:0<cs.size) :
  row w2 g=cs∧w2.cell? p0=some v0∧w2.cell? p1=some v1∧Below W.heap.size W w2:=⟨row_below hb s.1 h0,below_cell hb s.2.1,below_cell hb s.2.2.1,bt s.2.2.2 hb⟩
theorem keepB {W w1 w2:World} {g:Nat} {cs:Array Value} {p0 p1 p2:Addr} {v0 v1 v2:Value} (hb:Below w1.heap.size w1 w2) (s:row w1 g=cs∧w1.cell? p0=some v0∧w1.cell? p1=some v1∧w1.cell? p2=some v2∧Below W.heap.size W w1) (h0:0<cs.size) :
  row w2 g=cs∧w2.cell? p0=some v0∧w2.cell? p1=some v1∧w2.cell? p2=some v2∧Below W.heap.size W w2:=⟨row_below hb s.1 h0,below_cell hb s.2.1,below_cell hb s.2.2.1,below_cell hb s.2.2.2.1,bt s.2.2.2.2 hb⟩
theorem vals_set32 (e:En) (al gr v:Value):(e.vals al gr).setIfInBounds 32 v=e.vals al v:=by unfold En.vals;rfl
theorem set_held {w:World} {g n:Nat} (h:Held w g n) (i:Nat) (v:Value):w.setCell ⟨g,i,none⟩ v=w.setRow g ((row w g).setIfInBounds i v):=by
 obtain⟨t,fr,hb⟩:=held_block h
 exact setCell_eq_setRow w g i _ t fr v hb
theorem held_other {w:World} {g g' n:Nat} {c:Array Value} (h:Held w g n) (hne:g≠g'):Held (w.setRow g' c) g n :=
 h.of_block (setRow_block w g' g c hne)
theorem best_end (v:Value) {w wr w2:World} {e:En} {al gr:Value} {t:TypeId} (hBW:BW w wr) (hb:Below (wr.alloc (.cells (e.vals al gr) t)).heap.size (wr.alloc (.cells (e.vals al gr) t)) w2) :
  row (w2.setCell ⟨wr.heap.size,32,none⟩ v) wr.heap.size=e.vals al v∧Held (w2.setCell ⟨wr.heap.size,32,none⟩ v) w.heap.size 33 ∧
  w2.cell? ⟨wr.heap.size,32,none⟩=some gr∧w2.frozen? ⟨wr.heap.size,32,none⟩=false ∧
  (∀ c,Below w.heap.size w ((w2.setCell ⟨wr.heap.size,32,none⟩ v).setRow w.heap.size c))∧(∀ c k,(wr.alloc (.cells (e.vals al gr) t)).heap.size≤k→k<w2.heap.size→((w2.setCell ⟨wr.heap.size,32,none⟩ v).setRow w.heap.size c).heap[k]?=w2.heap[k]?):=by
 have hz:=hBW.2.size
 have hlt:=hBW.1.2.2
 have hE:=(EB.new wr (e.vals al gr) t).of_block (hb.block wr.heap.size (by simp)) hb.size
 have hH:=held_of hE (vals_size e al gr) (by decide)
 have hW:=held_of ((BW.after hBW hb).1) (show zE.size=33 from rfl) (by decide)
 have hs:=set_held hH 32 v
 rw[hE.1,vals_set32] at hs
 have hne:w.heap.size≠wr.heap.size:=by omega
 rw[hs]
 refine⟨row_setRow hH _,held_other hW hne,cell_row hE.1 32 _ (vals_32 e al gr),hE.2.1 32,fun c=>?_,fun c k h1 h2=>?_⟩
 · exact below_setRow (below_setRow (BW.after hBW hb).2 (by omega) _) (Nat.le_refl _) _
 · simp at h1
   rw[setRow_block _ _ _ _ (by omega),setRow_block _ _ _ _ (by omega)]
def BestR (nm:List UInt8) (l:List Ef) (r:Ending) (w':World):Prop :=
 (best nm l=none∧r=.returned (.tuple #[.agg zE,.bool false])) ∨
 ∃ (x:Ef) (a1:Option Addr) (c1:Nat) (gr:Value),best nm l=some x∧r=.returned (.tuple #[.agg (x.e.vals (.slice a1 x.n1 c1) gr),.bool true])∧GS w' gr x.gs
theorem ac_best (a:Option Addr) (n c:Nat) (F:Nat→Ef) (name:ByteArray) (w:World) (hm:MaxL w) (hES:ES w a n F) (hn:n≤1000) (hF:∀ k,k<n→(F k).e.name.size≤60∧(F k).n2≤1000) :
  Calls Tryz.prog 96 #[.slice a n c,.string name] w fun r w'=>BestR (Ds.bl name) (lst F n) r w'∧Below w.heap.size w w':=by
 have HF:=Lib.hid hF
 have HES:=Lib.hid hES
 clear hF hES
 go_enter Tryz.func96,Tryz.ntmps96
 go_wp2_with fail
 go_loopw [6,12] (fun bj i wr=>∃ (k:Nat) (j:Int),k≤n∧i=.int .i64 k∧bj=.int .i64 j∧BI2 (Ds.bl name) F k j∧BW w wr) (fun _ i _=>n - (intOf i).toNat)
 case atStart=>exact⟨0,-1,Nat.zero_le _,rfl,rfl,Or.inl ⟨rfl,rfl⟩,EB.new w zE _,by exact belA⟩
 case round =>
  obtain⟨k,j,hk,rfl,rfl,hj,hBW⟩:=hrel
  have HBW:=Lib.hid hBW
  have HJ:=Lib.hid hj
  clear hBW hj
  by_cases hlt:k<n
  · obtain⟨b,o,rfl,hb,a1,c1,a2,c2,hmid,-,-,hgs⟩:=(HES.out.below HBW.out.2).2 k hlt
    obtain⟨-,hg⟩:=hgs (HF.out k hlt).2
    have hx60:=(HF.out k hlt).1
    have hmr:=hm.below HBW.out.2
    have hz:(mid wr b (o+k*33)).size=33:=by rw[hmid];exact vals_size _ _ _
    have hone:=vals_one (F k).e (.slice a1 (F k).n1 c1) (.slice a2 (F k).n2 c2) rfl rfl
    have HMR:=Lib.hid hmr
    have HG:=Lib.hid hg
    clear hmr hg hgs
    by_cases hk4:(F k).e.kind=4
    rotate_left
    · have q4:((F k).e.kind==4)=false:=by rw[beq_eq_false_iff_ne];exact hk4
      have HH:Hid (hits (Ds.bl name) (F k)=false):=Lib.hid (by unfold hits;rw[decide_eq_false hk4,Bool.false_and])
      clear hk4
      go_wp2_with fail
      go_quiet (fail)
      go_wp2_with fail
      go_roundw
      case rel=>exact⟨k+1,j,by omega,by go_num,rfl,HJ.out.keep (Or.inl HH.out),(HBW.out.below ((Below.refl _ _).alloc (Nat.le_refl _) _)).below (below_drewN (Below.refl _ _) _)⟩
      case measure=>simp [intOf];omega
    have q4:((F k).e.kind==4)=true:=by rw[beq_iff_eq];exact hk4
    have R0:=row_new wr ((F k).e.vals (.slice a1 (F k).n1 c1) (.slice a2 (F k).n2 c2)) 27 (0,0)
    have N0:=cell_row R0 0 _ (vals_0 _ _ _)
    have N1:=cell_row R0 1 _ (vals_1 _ _ _)
    have ha:=fun W (B:Below (wr.alloc (.cells ((F k).e.vals (.slice a1 (F k).n1 c1) (.slice a2 (F k).n2 c2)) 27)).heap.size (wr.alloc (.cells ((F k).e.vals (.slice a1 (F k).n1 c1) (.slice a2 (F k).n2 c2)) 27)) W)=>below1 B
    have hv:=fun W B=>va_ef (F k) a1 c1 (.slice a2 (F k).n2 c2) W hk4 (HMR.out.below (ha W B)) (HG.out.below (ha W B))
    have hmt:=fun W B=>ds_match (F k).e.name name W (HMR.out.below (ha W B))
    have hh4:hits (Ds.bl name) (F k)=(okQ (F k)&&Ds.match_ (Ds.bl (F k).e.name) (Ds.bl name)):=by unfold hits;rw[decide_eq_true hk4,Bool.true_and]
    have HA:=Lib.hid ha
    clear ha hk4
    cases hq:okQ (F k)
    · rw[hq] at hv hh4
      have HV:=Lib.hid hv
      have HH:=Lib.hid hh4
      clear hv hmt hh4 hq
      go_upto_region 5 with fail
      refine wp_region_held_drew (S:=fun w'=>row w' wr.heap.size=(F k).e.vals (.slice a1 (F k).n1 c1) (.slice a2 (F k).n2 c2)∧w'.cell? ⟨wr.heap.size,0,none⟩=some (.int .i64 (F k).e.kind)∧w'.cell? ⟨wr.heap.size,1,none⟩=some (.string (F k).e.name)∧Below (wr.alloc (.cells ((F k).e.vals (.slice a1 (F k).n1 c1) (.slice a2 (F k).n2 c2)) 27)).heap.size (wr.alloc (.cells ((F k).e.vals (.slice a1 (F k).n1 c1) (.slice a2 (F k).n2 c2)) 27)) w') (by kernel_rfl) ?_ (fun hHeld=>?_)
      · exact⟨R0,N0,N1,Below.drew (Below.refl _ _)⟩
      (refine rg_y (i:=0) (some 17) (v:=?_) rfl rfl (by kernel_rfl) (by kernel_rfl) (by kernel_rfl) (fun _ _ _ h=>h) (by kernel_rfl) ?_ (by assumption) ?_;rotate_left 1;focus (intro w hSw;(try dsimp only at hSw);(first | (go_simp;done) | (go_simp;with_reducible rfl)));(try simp only[Act.put,List.setIfInBounds_toArray,List.set_cons_zero,List.set_cons_succ]))
      (refine rg_y (i:=1) (some 18) (v:=?_) rfl rfl (by kernel_rfl) (by kernel_rfl) (by kernel_rfl) (fun _ _ _ h=>h) (by kernel_rfl) ?_ (by assumption) ?_;rotate_left 1;focus (intro w hSw;(try dsimp only at hSw);(first | (go_simp;done) | (go_simp;with_reducible rfl)));(try simp only[Act.put,List.setIfInBounds_toArray,List.set_cons_zero,List.set_cons_succ]))
      (refine rg_y (i:=2) (some 19) (v:=?_) rfl rfl (by kernel_rfl) (by kernel_rfl) (by kernel_rfl) (fun _ _ _ h=>h) (by kernel_rfl) ?_ (by assumption) ?_;rotate_left 1;focus (intro w hSw;(try dsimp only at hSw);(first | (go_simp;done) | (go_simp;with_reducible rfl)));(try simp only[Act.put,List.setIfInBounds_toArray,List.set_cons_zero,List.set_cons_succ]))
      (refine rg_y (i:=3) (some 20) (v:=?_) rfl rfl (by kernel_rfl) (by kernel_rfl) (by kernel_rfl) (fun _ _ _ h=>h) (by kernel_rfl) ?_ (by assumption) ?_;rotate_left 1;focus (intro w hSw;(try dsimp only at hSw);(first | (go_simp;done) | (go_simp;with_reducible rfl)));(try simp only[Act.put,List.setIfInBounds_toArray,List.set_cons_zero,List.set_cons_succ]))
      refine rg_y (i:=4) (some 21) (v:=.agg ((F k).e.vals (.slice a1 (F k).n1 c1) (.slice a2 (F k).n2 c2))) rfl rfl (by kernel_rfl) (by kernel_rfl) (by kernel_rfl) (fun _ _ _ h=>h) (by kernel_rfl) (fun w hSw=>?_) (by assumption) ?_
      · refine (ldEnt _ w _ _ _ _ _ _ rfl (by show (row w wr.heap.size).size=33;rw[hSw.1];exact vals_size _ _ _)).trans ?_
        show Result.ok (Next.value (.agg (row w wr.heap.size))) w=_
        rw[hSw.1]
      (try simp only[Act.put,List.setIfInBounds_toArray,List.set_cons_zero,List.set_cons_succ])
      (refine wpAnyH_ready (rs:=[5]) (by kernel_rfl) (by simp) ?_;refine AllReadyH.cons (o:=_) rfl (fun K hK=>?_) AllReadyH.nil)
      go_simp
      (go_at_call 10;(with_reducible refine (HV.out _ hHeld.2.2.2).mono ?_);rintro _ w2 ⟨rfl,hb⟩)
      go_wp2_with fail
      refine hK.out _ _ (keepA hb hHeld (by simp [vals_size])) (fun hHeld=>?_)
      clear hb
      (clear hK K;(try simp only[Act.put,List.setIfInBounds_toArray,List.set_cons_zero,List.set_cons_succ]))
      (refine rg_y (i:=6) (some 23) (v:=?_) rfl rfl (by kernel_rfl) (by kernel_rfl) (by kernel_rfl) (fun _ _ _ h=>h) (by kernel_rfl) ?_ (by assumption) ?_;rotate_left 1;focus (intro w hSw;(try dsimp only at hSw);(first | (go_simp;done) | (go_simp;with_reducible rfl)));(try simp only[Act.put,List.setIfInBounds_toArray,List.set_cons_zero,List.set_cons_succ]))
      (refine rg_y (i:=7) (some 24) (v:=?_) rfl rfl (by kernel_rfl) (by kernel_rfl) (by kernel_rfl) (fun _ _ _ h=>h) (by kernel_rfl) ?_ (by assumption) ?_;rotate_left 1;focus (intro w hSw;(try dsimp only at hSw);(first | (go_simp;done) | (go_simp;with_reducible rfl)));(try simp only[Act.put,List.setIfInBounds_toArray,List.set_cons_zero,List.set_cons_succ]))
      (refine rg_s (i:=8) (some 25) rfl rfl (by kernel_rfl) (by kernel_rfl) (by kernel_rfl) (fun _ _ _ h=>h) (by kernel_rfl) (by assumption) ?_;(try simp only[Act.put,List.setIfInBounds_toArray,List.set_cons_zero,List.set_cons_succ]))
      (refine rg_s (i:=9) (some 26) rfl rfl (by kernel_rfl) (by kernel_rfl) (by kernel_rfl) (fun _ _ _ h=>h) (by kernel_rfl) (by assumption) ?_;(try simp only[Act.put,List.setIfInBounds_toArray,List.set_cons_zero,List.set_cons_succ]))
      (refine rg_s (i:=10) (some 27) rfl rfl (by kernel_rfl) (by kernel_rfl) (by kernel_rfl) (fun _ _ _ h=>h) (by kernel_rfl) (by assumption) ?_;(try simp only[Act.put,List.setIfInBounds_toArray,List.set_cons_zero,List.set_cons_succ]))
      (refine rg_n (i:=11) (some 28) rfl rfl (by kernel_rfl) (by kernel_rfl) (by assumption) ?_;(try simp only[Act.put,List.setIfInBounds_toArray,List.set_cons_zero,List.set_cons_succ]))
      (refine rg_y (i:=12) (some 29) (v:=?_) rfl rfl (by kernel_rfl) (by kernel_rfl) (by kernel_rfl) (fun _ _ _ h=>h) (by kernel_rfl) ?_ (by assumption) ?_;rotate_left 1;focus (intro w hSw;(try dsimp only at hSw);(first | (go_simp;done) | (go_simp;with_reducible rfl)));(try simp only[Act.put,List.setIfInBounds_toArray,List.set_cons_zero,List.set_cons_succ]))
      (refine rg_y (i:=13) (some 30) (v:=?_) rfl rfl (by kernel_rfl) (by kernel_rfl) (by kernel_rfl) (fun _ _ _ h=>h) (by kernel_rfl) ?_ (by assumption) ?_;rotate_left 1;focus (intro w hSw;(try dsimp only at hSw);(first | (go_simp;done) | (go_simp;with_reducible rfl)));(try simp only[Act.put,List.setIfInBounds_toArray,List.set_cons_zero,List.set_cons_succ]))
      (refine rg_s (i:=14) (some 31) rfl rfl (by kernel_rfl) (by kernel_rfl) (by kernel_rfl) (fun _ _ _ h=>h) (by kernel_rfl) (by assumption) ?_;(try simp only[Act.put,List.setIfInBounds_toArray,List.set_cons_zero,List.set_cons_succ]))
      (refine rg_s (i:=15) (some 32) rfl rfl (by kernel_rfl) (by kernel_rfl) (by kernel_rfl) (fun _ _ _ h=>h) (by kernel_rfl) (by assumption) ?_;(try simp only[Act.put,List.setIfInBounds_toArray,List.set_cons_zero,List.set_cons_succ]))
      (refine rg_s (i:=16) (some 33) rfl rfl (by kernel_rfl) (by kernel_rfl) (by kernel_rfl) (fun _ _ _ h=>h) (by kernel_rfl) (by assumption) ?_;(try simp only[Act.put,List.setIfInBounds_toArray,List.set_cons_zero,List.set_cons_succ]))
      (refine rg_s (i:=17) (some 34) rfl rfl (by kernel_rfl) (by kernel_rfl) (by kernel_rfl) (fun _ _ _ h=>h) (by kernel_rfl) (by assumption) ?_;(try simp only[Act.put,List.setIfInBounds_toArray,List.set_cons_zero,List.set_cons_succ]))
      (refine rg_s (i:=18) (some 35) rfl rfl (by kernel_rfl) (by kernel_rfl) (by kernel_rfl) (fun _ _ _ h=>h) (by kernel_rfl) (by assumption) ?_;(try simp only[Act.put,List.setIfInBounds_toArray,List.set_cons_zero,List.set_cons_succ]))
      (refine rg_s (i:=19) (some 36) rfl rfl (by kernel_rfl) (by kernel_rfl) (by kernel_rfl) (fun _ _ _ h=>h) (by kernel_rfl) (by assumption) ?_;(try simp only[Act.put,List.setIfInBounds_toArray,List.set_cons_zero,List.set_cons_succ]))
      (refine rg_s (i:=20) (some 37) rfl rfl (by kernel_rfl) (by kernel_rfl) (by kernel_rfl) (fun _ _ _ h=>h) (by kernel_rfl) (by assumption) ?_;(try simp only[Act.put,List.setIfInBounds_toArray,List.set_cons_zero,List.set_cons_succ]))
      (refine rg_s (i:=21) (some 38) rfl rfl (by kernel_rfl) (by kernel_rfl) (by kernel_rfl) (fun _ _ _ h=>h) (by kernel_rfl) (by assumption) ?_;(try simp only[Act.put,List.setIfInBounds_toArray,List.set_cons_zero,List.set_cons_succ]))
      (refine rg_s (i:=22) (some 39) rfl rfl (by kernel_rfl) (by kernel_rfl) (by kernel_rfl) (fun _ _ _ h=>h) (by kernel_rfl) (by assumption) ?_;(try simp only[Act.put,List.setIfInBounds_toArray,List.set_cons_zero,List.set_cons_succ]))
      (refine rg_s (i:=23) (some 40) rfl rfl (by kernel_rfl) (by kernel_rfl) (by kernel_rfl) (fun _ _ _ h=>h) (by kernel_rfl) (by assumption) ?_;(try simp only[Act.put,List.setIfInBounds_toArray,List.set_cons_zero,List.set_cons_succ]))
      (refine rg_n (i:=24) (some 41) rfl rfl (by kernel_rfl) (by kernel_rfl) (by assumption) ?_;(try simp only[Act.put,List.setIfInBounds_toArray,List.set_cons_zero,List.set_cons_succ]))
      (refine rg_s (i:=25) (some 42) rfl rfl (by kernel_rfl) (by kernel_rfl) (by kernel_rfl) (fun _ _ _ h=>h) (by kernel_rfl) (by assumption) ?_;(try simp only[Act.put,List.setIfInBounds_toArray,List.set_cons_zero,List.set_cons_succ]))
      (refine rg_s (i:=26) (some 43) rfl rfl (by kernel_rfl) (by kernel_rfl) (by kernel_rfl) (fun _ _ _ h=>h) (by kernel_rfl) (by assumption) ?_;(try simp only[Act.put,List.setIfInBounds_toArray,List.set_cons_zero,List.set_cons_succ]))
      (refine rg_y (i:=27) (some 44) (v:=?_) rfl rfl (by kernel_rfl) (by kernel_rfl) (by kernel_rfl) (fun _ _ _ h=>h) (by kernel_rfl) ?_ (by assumption) ?_;rotate_left 1;focus (intro w hSw;(try dsimp only at hSw);(first | (go_simp;done) | (go_simp;with_reducible rfl)));(try simp only[Act.put,List.setIfInBounds_toArray,List.set_cons_zero,List.set_cons_succ]))
      refine wpAnyH_done (by kernel_rfl) ?_ _
      go_wp2_with fail
      go_roundw
      case rel=>exact⟨k+1,j,by omega,by go_num,rfl,HJ.out.keep (Or.inl (by rw[HH.out];rfl)),HBW.out.after hHeld.2.2.2⟩
      case measure=>simp [intOf];omega
    rw[hq] at hv hh4
    cases hmm:Ds.match_ (Ds.bl (F k).e.name) (Ds.bl name)
    · rw[hmm] at hmt hh4
      have HV:=Lib.hid hv
      have HM:=Lib.hid hmt
      have HH:=Lib.hid hh4
      clear hv hmt hh4 hq hmm
      go_upto_region 5 with fail
      refine wp_region_held_drew (S:=fun w'=>row w' wr.heap.size=(F k).e.vals (.slice a1 (F k).n1 c1) (.slice a2 (F k).n2 c2)∧w'.cell? ⟨wr.heap.size,0,none⟩=some (.int .i64 (F k).e.kind)∧w'.cell? ⟨wr.heap.size,1,none⟩=some (.string (F k).e.name)∧Below (wr.alloc (.cells ((F k).e.vals (.slice a1 (F k).n1 c1) (.slice a2 (F k).n2 c2)) 27)).heap.size (wr.alloc (.cells ((F k).e.vals (.slice a1 (F k).n1 c1) (.slice a2 (F k).n2 c2)) 27)) w') (by kernel_rfl) ?_ (fun hHeld=>?_)
      · exact⟨R0,N0,N1,Below.drew (Below.refl _ _)⟩
      (refine rg_y (i:=0) (some 17) (v:=?_) rfl rfl (by kernel_rfl) (by kernel_rfl) (by kernel_rfl) (fun _ _ _ h=>h) (by kernel_rfl) ?_ (by assumption) ?_;rotate_left 1;focus (intro w hSw;(try dsimp only at hSw);(first | (go_simp;done) | (go_simp;with_reducible rfl)));(try simp only[Act.put,List.setIfInBounds_toArray,List.set_cons_zero,List.set_cons_succ]))
      (refine rg_y (i:=1) (some 18) (v:=?_) rfl rfl (by kernel_rfl) (by kernel_rfl) (by kernel_rfl) (fun _ _ _ h=>h) (by kernel_rfl) ?_ (by assumption) ?_;rotate_left 1;focus (intro w hSw;(try dsimp only at hSw);(first | (go_simp;done) | (go_simp;with_reducible rfl)));(try simp only[Act.put,List.setIfInBounds_toArray,List.set_cons_zero,List.set_cons_succ]))
      (refine rg_y (i:=2) (some 19) (v:=?_) rfl rfl (by kernel_rfl) (by kernel_rfl) (by kernel_rfl) (fun _ _ _ h=>h) (by kernel_rfl) ?_ (by assumption) ?_;rotate_left 1;focus (intro w hSw;(try dsimp only at hSw);(first | (go_simp;done) | (go_simp;with_reducible rfl)));(try simp only[Act.put,List.setIfInBounds_toArray,List.set_cons_zero,List.set_cons_succ]))
      (refine rg_y (i:=3) (some 20) (v:=?_) rfl rfl (by kernel_rfl) (by kernel_rfl) (by kernel_rfl) (fun _ _ _ h=>h) (by kernel_rfl) ?_ (by assumption) ?_;rotate_left 1;focus (intro w hSw;(try dsimp only at hSw);(first | (go_simp;done) | (go_simp;with_reducible rfl)));(try simp only[Act.put,List.setIfInBounds_toArray,List.set_cons_zero,List.set_cons_succ]))
      refine rg_y (i:=4) (some 21) (v:=.agg ((F k).e.vals (.slice a1 (F k).n1 c1) (.slice a2 (F k).n2 c2))) rfl rfl (by kernel_rfl) (by kernel_rfl) (by kernel_rfl) (fun _ _ _ h=>h) (by kernel_rfl) (fun w hSw=>?_) (by assumption) ?_
      · refine (ldEnt _ w _ _ _ _ _ _ rfl (by show (row w wr.heap.size).size=33;rw[hSw.1];exact vals_size _ _ _)).trans ?_
        show Result.ok (Next.value (.agg (row w wr.heap.size))) w=_
        rw[hSw.1]
      (try simp only[Act.put,List.setIfInBounds_toArray,List.set_cons_zero,List.set_cons_succ])
      (refine wpAnyH_ready (rs:=[5]) (by kernel_rfl) (by simp) ?_;refine AllReadyH.cons (o:=_) rfl (fun K hK=>?_) AllReadyH.nil)
      go_simp
      (go_at_call 10;(with_reducible refine (HV.out _ hHeld.2.2.2).mono ?_);rintro _ w2 ⟨rfl,hb⟩)
      go_wp2_with fail
      refine hK.out _ _ (keepA hb hHeld (by simp [vals_size])) (fun hHeld=>?_)
      clear hb
      (clear hK K;(try simp only[Act.put,List.setIfInBounds_toArray,List.set_cons_zero,List.set_cons_succ]))
      (refine rg_y (i:=6) (some 23) (v:=?_) rfl rfl (by kernel_rfl) (by kernel_rfl) (by kernel_rfl) (fun _ _ _ h=>h) (by kernel_rfl) ?_ (by assumption) ?_;rotate_left 1;focus (intro w hSw;(try dsimp only at hSw);(first | (go_simp;done) | (go_simp;with_reducible rfl)));(try simp only[Act.put,List.setIfInBounds_toArray,List.set_cons_zero,List.set_cons_succ]))
      (refine rg_y (i:=7) (some 24) (v:=?_) rfl rfl (by kernel_rfl) (by kernel_rfl) (by kernel_rfl) (fun _ _ _ h=>h) (by kernel_rfl) ?_ (by assumption) ?_;rotate_left 1;focus (intro w hSw;(try dsimp only at hSw);(first | (go_simp;done) | (go_simp;with_reducible rfl)));(try simp only[Act.put,List.setIfInBounds_toArray,List.set_cons_zero,List.set_cons_succ]))
      (refine rg_y (i:=8) (some 25) (v:=?_) rfl rfl (by kernel_rfl) (by kernel_rfl) (by kernel_rfl) (fun _ _ _ h=>h) (by kernel_rfl) ?_ (by assumption) ?_;rotate_left 1;focus (intro w hSw;(try dsimp only at hSw);(first | (go_simp;done) | (go_simp;with_reducible rfl)));(try simp only[Act.put,List.setIfInBounds_toArray,List.set_cons_zero,List.set_cons_succ]))
      (refine rg_y (i:=9) (some 26) (v:=?_) rfl rfl (by kernel_rfl) (by kernel_rfl) (by kernel_rfl) (fun _ _ _ h=>h) (by kernel_rfl) ?_ (by assumption) ?_;rotate_left 1;focus (intro w hSw;(try dsimp only at hSw);(first | (go_simp;done) | (go_simp;with_reducible rfl)));(try simp only[Act.put,List.setIfInBounds_toArray,List.set_cons_zero,List.set_cons_succ]))
      (refine rg_y (i:=10) (some 27) (v:=?_) rfl rfl (by kernel_rfl) (by kernel_rfl) (by kernel_rfl) (fun _ _ _ h=>h) (by kernel_rfl) ?_ (by assumption) ?_;rotate_left 1;focus (intro w hSw;(try dsimp only at hSw);(first | (go_simp;done) | (go_simp;with_reducible rfl)));(try simp only[Act.put,List.setIfInBounds_toArray,List.set_cons_zero,List.set_cons_succ]))
      (refine wpAnyH_ready (rs:=[11]) (by kernel_rfl) (by simp) ?_;refine AllReadyH.cons (o:=_) rfl (fun K hK=>?_) AllReadyH.nil)
      go_simp
      (go_at_call 158;(with_reducible refine (HM.out _ hHeld.2.2.2).mono ?_);rintro _ w2 ⟨rfl,hb⟩)
      go_wp2_with fail
      refine hK.out _ _ (keepA hb hHeld (by simp [vals_size])) (fun hHeld=>?_)
      clear hb
      (clear hK K;(try simp only[Act.put,List.setIfInBounds_toArray,List.set_cons_zero,List.set_cons_succ]))
      (refine rg_y (i:=12) (some 29) (v:=?_) rfl rfl (by kernel_rfl) (by kernel_rfl) (by kernel_rfl) (fun _ _ _ h=>h) (by kernel_rfl) ?_ (by assumption) ?_;rotate_left 1;focus (intro w hSw;(try dsimp only at hSw);(first | (go_simp;done) | (go_simp;with_reducible rfl)));(try simp only[Act.put,List.setIfInBounds_toArray,List.set_cons_zero,List.set_cons_succ]))
      (refine rg_y (i:=13) (some 30) (v:=?_) rfl rfl (by kernel_rfl) (by kernel_rfl) (by kernel_rfl) (fun _ _ _ h=>h) (by kernel_rfl) ?_ (by assumption) ?_;rotate_left 1;focus (intro w hSw;(try dsimp only at hSw);(first | (go_simp;done) | (go_simp;with_reducible rfl)));(try simp only[Act.put,List.setIfInBounds_toArray,List.set_cons_zero,List.set_cons_succ]))
      (refine rg_s (i:=14) (some 31) rfl rfl (by kernel_rfl) (by kernel_rfl) (by kernel_rfl) (fun _ _ _ h=>h) (by kernel_rfl) (by assumption) ?_;(try simp only[Act.put,List.setIfInBounds_toArray,List.set_cons_zero,List.set_cons_succ]))
      (refine rg_s (i:=15) (some 32) rfl rfl (by kernel_rfl) (by kernel_rfl) (by kernel_rfl) (fun _ _ _ h=>h) (by kernel_rfl) (by assumption) ?_;(try simp only[Act.put,List.setIfInBounds_toArray,List.set_cons_zero,List.set_cons_succ]))
      (refine rg_s (i:=16) (some 33) rfl rfl (by kernel_rfl) (by kernel_rfl) (by kernel_rfl) (fun _ _ _ h=>h) (by kernel_rfl) (by assumption) ?_;(try simp only[Act.put,List.setIfInBounds_toArray,List.set_cons_zero,List.set_cons_succ]))
      (refine rg_s (i:=17) (some 34) rfl rfl (by kernel_rfl) (by kernel_rfl) (by kernel_rfl) (fun _ _ _ h=>h) (by kernel_rfl) (by assumption) ?_;(try simp only[Act.put,List.setIfInBounds_toArray,List.set_cons_zero,List.set_cons_succ]))
      (refine rg_s (i:=18) (some 35) rfl rfl (by kernel_rfl) (by kernel_rfl) (by kernel_rfl) (fun _ _ _ h=>h) (by kernel_rfl) (by assumption) ?_;(try simp only[Act.put,List.setIfInBounds_toArray,List.set_cons_zero,List.set_cons_succ]))
      (refine rg_s (i:=19) (some 36) rfl rfl (by kernel_rfl) (by kernel_rfl) (by kernel_rfl) (fun _ _ _ h=>h) (by kernel_rfl) (by assumption) ?_;(try simp only[Act.put,List.setIfInBounds_toArray,List.set_cons_zero,List.set_cons_succ]))
      (refine rg_s (i:=20) (some 37) rfl rfl (by kernel_rfl) (by kernel_rfl) (by kernel_rfl) (fun _ _ _ h=>h) (by kernel_rfl) (by assumption) ?_;(try simp only[Act.put,List.setIfInBounds_toArray,List.set_cons_zero,List.set_cons_succ]))
      (refine rg_s (i:=21) (some 38) rfl rfl (by kernel_rfl) (by kernel_rfl) (by kernel_rfl) (fun _ _ _ h=>h) (by kernel_rfl) (by assumption) ?_;(try simp only[Act.put,List.setIfInBounds_toArray,List.set_cons_zero,List.set_cons_succ]))
      (refine rg_s (i:=22) (some 39) rfl rfl (by kernel_rfl) (by kernel_rfl) (by kernel_rfl) (fun _ _ _ h=>h) (by kernel_rfl) (by assumption) ?_;(try simp only[Act.put,List.setIfInBounds_toArray,List.set_cons_zero,List.set_cons_succ]))
      (refine rg_s (i:=23) (some 40) rfl rfl (by kernel_rfl) (by kernel_rfl) (by kernel_rfl) (fun _ _ _ h=>h) (by kernel_rfl) (by assumption) ?_;(try simp only[Act.put,List.setIfInBounds_toArray,List.set_cons_zero,List.set_cons_succ]))
      (refine rg_n (i:=24) (some 41) rfl rfl (by kernel_rfl) (by kernel_rfl) (by assumption) ?_;(try simp only[Act.put,List.setIfInBounds_toArray,List.set_cons_zero,List.set_cons_succ]))
      (refine rg_s (i:=25) (some 42) rfl rfl (by kernel_rfl) (by kernel_rfl) (by kernel_rfl) (fun _ _ _ h=>h) (by kernel_rfl) (by assumption) ?_;(try simp only[Act.put,List.setIfInBounds_toArray,List.set_cons_zero,List.set_cons_succ]))
      (refine rg_s (i:=26) (some 43) rfl rfl (by kernel_rfl) (by kernel_rfl) (by kernel_rfl) (fun _ _ _ h=>h) (by kernel_rfl) (by assumption) ?_;(try simp only[Act.put,List.setIfInBounds_toArray,List.set_cons_zero,List.set_cons_succ]))
      (refine rg_y (i:=27) (some 44) (v:=?_) rfl rfl (by kernel_rfl) (by kernel_rfl) (by kernel_rfl) (fun _ _ _ h=>h) (by kernel_rfl) ?_ (by assumption) ?_;rotate_left 1;focus (intro w hSw;(try dsimp only at hSw);(first | (go_simp;done) | (go_simp;with_reducible rfl)));(try simp only[Act.put,List.setIfInBounds_toArray,List.set_cons_zero,List.set_cons_succ]))
      refine wpAnyH_done (by kernel_rfl) ?_ _
      go_wp2_with fail
      go_roundw
      case rel=>exact⟨k+1,j,by omega,by go_num,rfl,HJ.out.keep (Or.inl (by rw[HH.out];rfl)),HBW.out.after hHeld.2.2.2⟩
      case measure=>simp [intOf];omega
    rw[hmm] at hmt hh4
    rcases HJ.out with ⟨hno,rfl⟩ | ⟨i,rfl,hik,hso⟩
    · have HV:=Lib.hid hv
      have HM:=Lib.hid hmt
      have HH:=Lib.hid hh4
      have HN:=Lib.hid hno
      clear hv hmt hh4 hq hmm hno
      go_upto_region 5 with fail
      refine wp_region_held_drew (S:=fun w'=>row w' wr.heap.size=(F k).e.vals (.slice a1 (F k).n1 c1) (.slice a2 (F k).n2 c2)∧w'.cell? ⟨wr.heap.size,0,none⟩=some (.int .i64 (F k).e.kind)∧w'.cell? ⟨wr.heap.size,1,none⟩=some (.string (F k).e.name)∧Below (wr.alloc (.cells ((F k).e.vals (.slice a1 (F k).n1 c1) (.slice a2 (F k).n2 c2)) 27)).heap.size (wr.alloc (.cells ((F k).e.vals (.slice a1 (F k).n1 c1) (.slice a2 (F k).n2 c2)) 27)) w') (by kernel_rfl) ?_ (fun hHeld=>?_)
      · exact⟨R0,N0,N1,Below.drew (Below.refl _ _)⟩
      (refine rg_y (i:=0) (some 17) (v:=?_) rfl rfl (by kernel_rfl) (by kernel_rfl) (by kernel_rfl) (fun _ _ _ h=>h) (by kernel_rfl) ?_ (by assumption) ?_;rotate_left 1;focus (intro w hSw;(try dsimp only at hSw);(first | (go_simp;done) | (go_simp;with_reducible rfl)));(try simp only[Act.put,List.setIfInBounds_toArray,List.set_cons_zero,List.set_cons_succ]))
      (refine rg_y (i:=1) (some 18) (v:=?_) rfl rfl (by kernel_rfl) (by kernel_rfl) (by kernel_rfl) (fun _ _ _ h=>h) (by kernel_rfl) ?_ (by assumption) ?_;rotate_left 1;focus (intro w hSw;(try dsimp only at hSw);(first | (go_simp;done) | (go_simp;with_reducible rfl)));(try simp only[Act.put,List.setIfInBounds_toArray,List.set_cons_zero,List.set_cons_succ]))
      (refine rg_y (i:=2) (some 19) (v:=?_) rfl rfl (by kernel_rfl) (by kernel_rfl) (by kernel_rfl) (fun _ _ _ h=>h) (by kernel_rfl) ?_ (by assumption) ?_;rotate_left 1;focus (intro w hSw;(try dsimp only at hSw);(first | (go_simp;done) | (go_simp;with_reducible rfl)));(try simp only[Act.put,List.setIfInBounds_toArray,List.set_cons_zero,List.set_cons_succ]))
      (refine rg_y (i:=3) (some 20) (v:=?_) rfl rfl (by kernel_rfl) (by kernel_rfl) (by kernel_rfl) (fun _ _ _ h=>h) (by kernel_rfl) ?_ (by assumption) ?_;rotate_left 1;focus (intro w hSw;(try dsimp only at hSw);(first | (go_simp;done) | (go_simp;with_reducible rfl)));(try simp only[Act.put,List.setIfInBounds_toArray,List.set_cons_zero,List.set_cons_succ]))
      refine rg_y (i:=4) (some 21) (v:=.agg ((F k).e.vals (.slice a1 (F k).n1 c1) (.slice a2 (F k).n2 c2))) rfl rfl (by kernel_rfl) (by kernel_rfl) (by kernel_rfl) (fun _ _ _ h=>h) (by kernel_rfl) (fun w hSw=>?_) (by assumption) ?_
      · refine (ldEnt _ w _ _ _ _ _ _ rfl (by show (row w wr.heap.size).size=33;rw[hSw.1];exact vals_size _ _ _)).trans ?_
        show Result.ok (Next.value (.agg (row w wr.heap.size))) w=_
        rw[hSw.1]
      (try simp only[Act.put,List.setIfInBounds_toArray,List.set_cons_zero,List.set_cons_succ])
      (refine wpAnyH_ready (rs:=[5]) (by kernel_rfl) (by simp) ?_;refine AllReadyH.cons (o:=_) rfl (fun K hK=>?_) AllReadyH.nil)
      go_simp
      (go_at_call 10;(with_reducible refine (HV.out _ hHeld.2.2.2).mono ?_);rintro _ w2 ⟨rfl,hb⟩)
      go_wp2_with fail
      refine hK.out _ _ (keepA hb hHeld (by simp [vals_size])) (fun hHeld=>?_)
      clear hb
      (clear hK K;(try simp only[Act.put,List.setIfInBounds_toArray,List.set_cons_zero,List.set_cons_succ]))
      (refine rg_y (i:=6) (some 23) (v:=?_) rfl rfl (by kernel_rfl) (by kernel_rfl) (by kernel_rfl) (fun _ _ _ h=>h) (by kernel_rfl) ?_ (by assumption) ?_;rotate_left 1;focus (intro w hSw;(try dsimp only at hSw);(first | (go_simp;done) | (go_simp;with_reducible rfl)));(try simp only[Act.put,List.setIfInBounds_toArray,List.set_cons_zero,List.set_cons_succ]))
      (refine rg_y (i:=7) (some 24) (v:=?_) rfl rfl (by kernel_rfl) (by kernel_rfl) (by kernel_rfl) (fun _ _ _ h=>h) (by kernel_rfl) ?_ (by assumption) ?_;rotate_left 1;focus (intro w hSw;(try dsimp only at hSw);(first | (go_simp;done) | (go_simp;with_reducible rfl)));(try simp only[Act.put,List.setIfInBounds_toArray,List.set_cons_zero,List.set_cons_succ]))
      (refine rg_y (i:=8) (some 25) (v:=?_) rfl rfl (by kernel_rfl) (by kernel_rfl) (by kernel_rfl) (fun _ _ _ h=>h) (by kernel_rfl) ?_ (by assumption) ?_;rotate_left 1;focus (intro w hSw;(try dsimp only at hSw);(first | (go_simp;done) | (go_simp;with_reducible rfl)));(try simp only[Act.put,List.setIfInBounds_toArray,List.set_cons_zero,List.set_cons_succ]))
      (refine rg_y (i:=9) (some 26) (v:=?_) rfl rfl (by kernel_rfl) (by kernel_rfl) (by kernel_rfl) (fun _ _ _ h=>h) (by kernel_rfl) ?_ (by assumption) ?_;rotate_left 1;focus (intro w hSw;(try dsimp only at hSw);(first | (go_simp;done) | (go_simp;with_reducible rfl)));(try simp only[Act.put,List.setIfInBounds_toArray,List.set_cons_zero,List.set_cons_succ]))
      (refine rg_y (i:=10) (some 27) (v:=?_) rfl rfl (by kernel_rfl) (by kernel_rfl) (by kernel_rfl) (fun _ _ _ h=>h) (by kernel_rfl) ?_ (by assumption) ?_;rotate_left 1;focus (intro w hSw;(try dsimp only at hSw);(first | (go_simp;done) | (go_simp;with_reducible rfl)));(try simp only[Act.put,List.setIfInBounds_toArray,List.set_cons_zero,List.set_cons_succ]))
      (refine wpAnyH_ready (rs:=[11]) (by kernel_rfl) (by simp) ?_;refine AllReadyH.cons (o:=_) rfl (fun K hK=>?_) AllReadyH.nil)
      go_simp
      (go_at_call 158;(with_reducible refine (HM.out _ hHeld.2.2.2).mono ?_);rintro _ w2 ⟨rfl,hb⟩)
      go_wp2_with fail
      refine hK.out _ _ (keepA hb hHeld (by simp [vals_size])) (fun hHeld=>?_)
      clear hb
      (clear hK K;(try simp only[Act.put,List.setIfInBounds_toArray,List.set_cons_zero,List.set_cons_succ]))
      (refine rg_y (i:=12) (some 29) (v:=?_) rfl rfl (by kernel_rfl) (by kernel_rfl) (by kernel_rfl) (fun _ _ _ h=>h) (by kernel_rfl) ?_ (by assumption) ?_;rotate_left 1;focus (intro w hSw;(try dsimp only at hSw);(first | (go_simp;done) | (go_simp;with_reducible rfl)));(try simp only[Act.put,List.setIfInBounds_toArray,List.set_cons_zero,List.set_cons_succ]))
      (refine rg_y (i:=13) (some 30) (v:=?_) rfl rfl (by kernel_rfl) (by kernel_rfl) (by kernel_rfl) (fun _ _ _ h=>h) (by kernel_rfl) ?_ (by assumption) ?_;rotate_left 1;focus (intro w hSw;(try dsimp only at hSw);(first | (go_simp;done) | (go_simp;with_reducible rfl)));(try simp only[Act.put,List.setIfInBounds_toArray,List.set_cons_zero,List.set_cons_succ]))
      (refine rg_y (i:=14) (some 31) (v:=?_) rfl rfl (by kernel_rfl) (by kernel_rfl) (by kernel_rfl) (fun _ _ _ h=>h) (by kernel_rfl) ?_ (by assumption) ?_;rotate_left 1;focus (intro w hSw;(try dsimp only at hSw);(first | (go_simp;done) | (go_simp;with_reducible rfl)));(try simp only[Act.put,List.setIfInBounds_toArray,List.set_cons_zero,List.set_cons_succ]))
      (refine rg_y (i:=15) (some 32) (v:=?_) rfl rfl (by kernel_rfl) (by kernel_rfl) (by kernel_rfl) (fun _ _ _ h=>h) (by kernel_rfl) ?_ (by assumption) ?_;rotate_left 1;focus (intro w hSw;(try dsimp only at hSw);(first | (go_simp;done) | (go_simp;with_reducible rfl)));(try simp only[Act.put,List.setIfInBounds_toArray,List.set_cons_zero,List.set_cons_succ]))
      (refine rg_y (i:=16) (some 33) (v:=?_) rfl rfl (by kernel_rfl) (by kernel_rfl) (by kernel_rfl) (fun _ _ _ h=>h) (by kernel_rfl) ?_ (by assumption) ?_;rotate_left 1;focus (intro w hSw;(try dsimp only at hSw);(first | (go_simp;done) | (go_simp;with_reducible rfl)));(try simp only[Act.put,List.setIfInBounds_toArray,List.set_cons_zero,List.set_cons_succ]))
      (refine rg_s (i:=17) (some 34) rfl rfl (by kernel_rfl) (by kernel_rfl) (by kernel_rfl) (fun _ _ _ h=>h) (by kernel_rfl) (by assumption) ?_;(try simp only[Act.put,List.setIfInBounds_toArray,List.set_cons_zero,List.set_cons_succ]))
      (refine rg_s (i:=18) (some 35) rfl rfl (by kernel_rfl) (by kernel_rfl) (by kernel_rfl) (fun _ _ _ h=>h) (by kernel_rfl) (by assumption) ?_;(try simp only[Act.put,List.setIfInBounds_toArray,List.set_cons_zero,List.set_cons_succ]))
      (refine rg_s (i:=19) (some 36) rfl rfl (by kernel_rfl) (by kernel_rfl) (by kernel_rfl) (fun _ _ _ h=>h) (by kernel_rfl) (by assumption) ?_;(try simp only[Act.put,List.setIfInBounds_toArray,List.set_cons_zero,List.set_cons_succ]))
      (refine rg_s (i:=20) (some 37) rfl rfl (by kernel_rfl) (by kernel_rfl) (by kernel_rfl) (fun _ _ _ h=>h) (by kernel_rfl) (by assumption) ?_;(try simp only[Act.put,List.setIfInBounds_toArray,List.set_cons_zero,List.set_cons_succ]))
      (refine rg_s (i:=21) (some 38) rfl rfl (by kernel_rfl) (by kernel_rfl) (by kernel_rfl) (fun _ _ _ h=>h) (by kernel_rfl) (by assumption) ?_;(try simp only[Act.put,List.setIfInBounds_toArray,List.set_cons_zero,List.set_cons_succ]))
      (refine rg_s (i:=22) (some 39) rfl rfl (by kernel_rfl) (by kernel_rfl) (by kernel_rfl) (fun _ _ _ h=>h) (by kernel_rfl) (by assumption) ?_;(try simp only[Act.put,List.setIfInBounds_toArray,List.set_cons_zero,List.set_cons_succ]))
      (refine rg_s (i:=23) (some 40) rfl rfl (by kernel_rfl) (by kernel_rfl) (by kernel_rfl) (fun _ _ _ h=>h) (by kernel_rfl) (by assumption) ?_;(try simp only[Act.put,List.setIfInBounds_toArray,List.set_cons_zero,List.set_cons_succ]))
      (refine rg_n (i:=24) (some 41) rfl rfl (by kernel_rfl) (by kernel_rfl) (by assumption) ?_;(try simp only[Act.put,List.setIfInBounds_toArray,List.set_cons_zero,List.set_cons_succ]))
      (refine rg_s (i:=25) (some 42) rfl rfl (by kernel_rfl) (by kernel_rfl) (by kernel_rfl) (fun _ _ _ h=>h) (by kernel_rfl) (by assumption) ?_;(try simp only[Act.put,List.setIfInBounds_toArray,List.set_cons_zero,List.set_cons_succ]))
      (refine rg_y (i:=26) (some 43) (v:=?_) rfl rfl (by kernel_rfl) (by kernel_rfl) (by kernel_rfl) (fun _ _ _ h=>h) (by kernel_rfl) ?_ (by assumption) ?_;rotate_left 1;focus (intro w hSw;(try dsimp only at hSw);(first | (go_simp;done) | (go_simp;with_reducible rfl)));(try simp only[Act.put,List.setIfInBounds_toArray,List.set_cons_zero,List.set_cons_succ]))
      (refine rg_y (i:=27) (some 44) (v:=?_) rfl rfl (by kernel_rfl) (by kernel_rfl) (by kernel_rfl) (fun _ _ _ h=>h) (by kernel_rfl) ?_ (by assumption) ?_;rotate_left 1;focus (intro w hSw;(try dsimp only at hSw);(first | (go_simp;done) | (go_simp;with_reducible rfl)));(try simp only[Act.put,List.setIfInBounds_toArray,List.set_cons_zero,List.set_cons_succ]))
      refine wpAnyH_done (by kernel_rfl) ?_ _
      go_wp2_with fail
      go_roundw
      case rel=>exact⟨k+1,k,by omega,by go_num,rfl,BI2.take (by rw[HH.out];rfl) (by rw[HN.out];rfl),HBW.out.after hHeld.2.2.2⟩
      case measure=>simp [intOf];omega
    · obtain⟨b',o',e',-,i1',c1',i2',c2',himid,-⟩:=(HES.out.below HBW.out.2).2 i (by omega)
      cases e'
      have N2:=below_cell ((Below.refl wr.heap.size wr).alloc (Nat.le_refl _) (.cells ((F k).e.vals (.slice a1 (F k).n1 c1) (.slice a2 (F k).n2 c2)) 27)) (cell_mid himid 1 _ (vals_1 _ _ _))
      have ho:=fun W B=>ds_order (F k).e.name (F i).e.name W hx60 (HF.out i (by omega)).1 (HMR.out.below (HA.out W B))
      have i1:(0:Int)≤(i:Int):=by omega
      have i2:(i:Int)<(n:Int):=by omega
      have hah:ahead (F k) (best (Ds.bl name) (lst F k))=decide (Ds.order (Ds.bl (F k).e.name) (Ds.bl (F i).e.name)<0):=by rw[hso];rfl
      have i3:¬ ((i:Int)<0):=by omega
      generalize Ds.order (Ds.bl (F k).e.name) (Ds.bl (F i).e.name)=od at ho hah
      have HV:=Lib.hid hv
      have HM:=Lib.hid hmt
      have HO:=Lib.hid ho
      have HH:=Lib.hid hh4
      have HSO:=Lib.hid hso
      clear hv hmt ho hh4 hq hmm hso himid
      by_cases hod:od<0
      · have q5:decide (od<0)=true:=decide_eq_true hod
        rw[q5] at hah
        have HAH:=Lib.hid hah
        clear hah
        go_upto_region 5 with fail
        refine wp_region_held_drew (S:=fun w'=>row w' wr.heap.size=(F k).e.vals (.slice a1 (F k).n1 c1) (.slice a2 (F k).n2 c2)∧w'.cell? ⟨wr.heap.size,0,none⟩=some (.int .i64 (F k).e.kind)∧w'.cell? ⟨wr.heap.size,1,none⟩=some (.string (F k).e.name)∧w'.cell? ⟨b,o+i*33+1,none⟩=some (.string (F i).e.name)∧Below (wr.alloc (.cells ((F k).e.vals (.slice a1 (F k).n1 c1) (.slice a2 (F k).n2 c2)) 27)).heap.size (wr.alloc (.cells ((F k).e.vals (.slice a1 (F k).n1 c1) (.slice a2 (F k).n2 c2)) 27)) w') (by kernel_rfl) ?_ (fun hHeld=>?_)
        · exact⟨R0,N0,N1,N2,Below.drew (Below.refl _ _)⟩
        (refine rg_y (i:=0) (some 17) (v:=?_) rfl rfl (by kernel_rfl) (by kernel_rfl) (by kernel_rfl) (fun _ _ _ h=>h) (by kernel_rfl) ?_ (by assumption) ?_;rotate_left 1;focus (intro w hSw;(try dsimp only at hSw);(first | (go_simp;done) | (go_simp;with_reducible rfl)));(try simp only[Act.put,List.setIfInBounds_toArray,List.set_cons_zero,List.set_cons_succ]))
        (refine rg_y (i:=1) (some 18) (v:=?_) rfl rfl (by kernel_rfl) (by kernel_rfl) (by kernel_rfl) (fun _ _ _ h=>h) (by kernel_rfl) ?_ (by assumption) ?_;rotate_left 1;focus (intro w hSw;(try dsimp only at hSw);(first | (go_simp;done) | (go_simp;with_reducible rfl)));(try simp only[Act.put,List.setIfInBounds_toArray,List.set_cons_zero,List.set_cons_succ]))
        (refine rg_y (i:=2) (some 19) (v:=?_) rfl rfl (by kernel_rfl) (by kernel_rfl) (by kernel_rfl) (fun _ _ _ h=>h) (by kernel_rfl) ?_ (by assumption) ?_;rotate_left 1;focus (intro w hSw;(try dsimp only at hSw);(first | (go_simp;done) | (go_simp;with_reducible rfl)));(try simp only[Act.put,List.setIfInBounds_toArray,List.set_cons_zero,List.set_cons_succ]))
        (refine rg_y (i:=3) (some 20) (v:=?_) rfl rfl (by kernel_rfl) (by kernel_rfl) (by kernel_rfl) (fun _ _ _ h=>h) (by kernel_rfl) ?_ (by assumption) ?_;rotate_left 1;focus (intro w hSw;(try dsimp only at hSw);(first | (go_simp;done) | (go_simp;with_reducible rfl)));(try simp only[Act.put,List.setIfInBounds_toArray,List.set_cons_zero,List.set_cons_succ]))
        refine rg_y (i:=4) (some 21) (v:=.agg ((F k).e.vals (.slice a1 (F k).n1 c1) (.slice a2 (F k).n2 c2))) rfl rfl (by kernel_rfl) (by kernel_rfl) (by kernel_rfl) (fun _ _ _ h=>h) (by kernel_rfl) (fun w hSw=>?_) (by assumption) ?_
        · refine (ldEnt _ w _ _ _ _ _ _ rfl (by show (row w wr.heap.size).size=33;rw[hSw.1];exact vals_size _ _ _)).trans ?_
          show Result.ok (Next.value (.agg (row w wr.heap.size))) w=_
          rw[hSw.1]
        (try simp only[Act.put,List.setIfInBounds_toArray,List.set_cons_zero,List.set_cons_succ])
        (refine wpAnyH_ready (rs:=[5]) (by kernel_rfl) (by simp) ?_;refine AllReadyH.cons (o:=_) rfl (fun K hK=>?_) AllReadyH.nil)
        go_simp
        (go_at_call 10;(with_reducible refine (HV.out _ hHeld.2.2.2.2).mono ?_);rintro _ w2 ⟨rfl,hb⟩)
        go_wp2_with fail
        refine hK.out _ _ (keepB hb hHeld (by simp [vals_size])) (fun hHeld=>?_)
        clear hb
        (clear hK K;(try simp only[Act.put,List.setIfInBounds_toArray,List.set_cons_zero,List.set_cons_succ]))
        (refine rg_y (i:=6) (some 23) (v:=?_) rfl rfl (by kernel_rfl) (by kernel_rfl) (by kernel_rfl) (fun _ _ _ h=>h) (by kernel_rfl) ?_ (by assumption) ?_;rotate_left 1;focus (intro w hSw;(try dsimp only at hSw);(first | (go_simp;done) | (go_simp;with_reducible rfl)));(try simp only[Act.put,List.setIfInBounds_toArray,List.set_cons_zero,List.set_cons_succ]))
        (refine rg_y (i:=7) (some 24) (v:=?_) rfl rfl (by kernel_rfl) (by kernel_rfl) (by kernel_rfl) (fun _ _ _ h=>h) (by kernel_rfl) ?_ (by assumption) ?_;rotate_left 1;focus (intro w hSw;(try dsimp only at hSw);(first | (go_simp;done) | (go_simp;with_reducible rfl)));(try simp only[Act.put,List.setIfInBounds_toArray,List.set_cons_zero,List.set_cons_succ]))
        (refine rg_y (i:=8) (some 25) (v:=?_) rfl rfl (by kernel_rfl) (by kernel_rfl) (by kernel_rfl) (fun _ _ _ h=>h) (by kernel_rfl) ?_ (by assumption) ?_;rotate_left 1;focus (intro w hSw;(try dsimp only at hSw);(first | (go_simp;done) | (go_simp;with_reducible rfl)));(try simp only[Act.put,List.setIfInBounds_toArray,List.set_cons_zero,List.set_cons_succ]))
        (refine rg_y (i:=9) (some 26) (v:=?_) rfl rfl (by kernel_rfl) (by kernel_rfl) (by kernel_rfl) (fun _ _ _ h=>h) (by kernel_rfl) ?_ (by assumption) ?_;rotate_left 1;focus (intro w hSw;(try dsimp only at hSw);(first | (go_simp;done) | (go_simp;with_reducible rfl)));(try simp only[Act.put,List.setIfInBounds_toArray,List.set_cons_zero,List.set_cons_succ]))
        (refine rg_y (i:=10) (some 27) (v:=?_) rfl rfl (by kernel_rfl) (by kernel_rfl) (by kernel_rfl) (fun _ _ _ h=>h) (by kernel_rfl) ?_ (by assumption) ?_;rotate_left 1;focus (intro w hSw;(try dsimp only at hSw);(first | (go_simp;done) | (go_simp;with_reducible rfl)));(try simp only[Act.put,List.setIfInBounds_toArray,List.set_cons_zero,List.set_cons_succ]))
        (refine wpAnyH_ready (rs:=[11]) (by kernel_rfl) (by simp) ?_;refine AllReadyH.cons (o:=_) rfl (fun K hK=>?_) AllReadyH.nil)
        go_simp
        (go_at_call 158;(with_reducible refine (HM.out _ hHeld.2.2.2.2).mono ?_);rintro _ w2 ⟨rfl,hb⟩)
        go_wp2_with fail
        refine hK.out _ _ (keepB hb hHeld (by simp [vals_size])) (fun hHeld=>?_)
        clear hb
        (clear hK K;(try simp only[Act.put,List.setIfInBounds_toArray,List.set_cons_zero,List.set_cons_succ]))
        (refine rg_y (i:=12) (some 29) (v:=?_) rfl rfl (by kernel_rfl) (by kernel_rfl) (by kernel_rfl) (fun _ _ _ h=>h) (by kernel_rfl) ?_ (by assumption) ?_;rotate_left 1;focus (intro w hSw;(try dsimp only at hSw);(first | (go_simp;done) | (go_simp;with_reducible rfl)));(try simp only[Act.put,List.setIfInBounds_toArray,List.set_cons_zero,List.set_cons_succ]))
        (refine rg_y (i:=13) (some 30) (v:=?_) rfl rfl (by kernel_rfl) (by kernel_rfl) (by kernel_rfl) (fun _ _ _ h=>h) (by kernel_rfl) ?_ (by assumption) ?_;rotate_left 1;focus (intro w hSw;(try dsimp only at hSw);(first | (go_simp;done) | (go_simp;with_reducible rfl)));(try simp only[Act.put,List.setIfInBounds_toArray,List.set_cons_zero,List.set_cons_succ]))
        (refine rg_y (i:=14) (some 31) (v:=?_) rfl rfl (by kernel_rfl) (by kernel_rfl) (by kernel_rfl) (fun _ _ _ h=>h) (by kernel_rfl) ?_ (by assumption) ?_;rotate_left 1;focus (intro w hSw;(try dsimp only at hSw);(first | (go_simp;done) | (go_simp;with_reducible rfl)));(try simp only[Act.put,List.setIfInBounds_toArray,List.set_cons_zero,List.set_cons_succ]))
        (refine rg_y (i:=15) (some 32) (v:=?_) rfl rfl (by kernel_rfl) (by kernel_rfl) (by kernel_rfl) (fun _ _ _ h=>h) (by kernel_rfl) ?_ (by assumption) ?_;rotate_left 1;focus (intro w hSw;(try dsimp only at hSw);(first | (go_simp;done) | (go_simp;with_reducible rfl)));(try simp only[Act.put,List.setIfInBounds_toArray,List.set_cons_zero,List.set_cons_succ]))
        (refine rg_y (i:=16) (some 33) (v:=?_) rfl rfl (by kernel_rfl) (by kernel_rfl) (by kernel_rfl) (fun _ _ _ h=>h) (by kernel_rfl) ?_ (by assumption) ?_;rotate_left 1;focus (intro w hSw;(try dsimp only at hSw);(first | (go_simp;done) | (go_simp;with_reducible rfl)));(try simp only[Act.put,List.setIfInBounds_toArray,List.set_cons_zero,List.set_cons_succ]))
        (refine rg_y (i:=17) (some 34) (v:=?_) rfl rfl (by kernel_rfl) (by kernel_rfl) (by kernel_rfl) (fun _ _ _ h=>h) (by kernel_rfl) ?_ (by assumption) ?_;rotate_left 1;focus (intro w hSw;(try dsimp only at hSw);(first | (go_simp;done) | (go_simp;with_reducible rfl)));(try simp only[Act.put,List.setIfInBounds_toArray,List.set_cons_zero,List.set_cons_succ]))
        (refine rg_y (i:=18) (some 35) (v:=?_) rfl rfl (by kernel_rfl) (by kernel_rfl) (by kernel_rfl) (fun _ _ _ h=>h) (by kernel_rfl) ?_ (by assumption) ?_;rotate_left 1;focus (intro w hSw;(try dsimp only at hSw);(first | (go_simp;done) | (go_simp;with_reducible rfl)));(try simp only[Act.put,List.setIfInBounds_toArray,List.set_cons_zero,List.set_cons_succ]))
        (refine rg_y (i:=19) (some 36) (v:=?_) rfl rfl (by kernel_rfl) (by kernel_rfl) (by kernel_rfl) (fun _ _ _ h=>h) (by kernel_rfl) ?_ (by assumption) ?_;rotate_left 1;focus (intro w hSw;(try dsimp only at hSw);(first | (go_simp;done) | (go_simp;with_reducible rfl)));(try simp only[Act.put,List.setIfInBounds_toArray,List.set_cons_zero,List.set_cons_succ]))
        (refine rg_y (i:=20) (some 37) (v:=?_) rfl rfl (by kernel_rfl) (by kernel_rfl) (by kernel_rfl) (fun _ _ _ h=>h) (by kernel_rfl) ?_ (by assumption) ?_;rotate_left 1;focus (intro w hSw;(try dsimp only at hSw);(first | (go_simp;done) | (go_simp;with_reducible rfl)));(try simp only[Act.put,List.setIfInBounds_toArray,List.set_cons_zero,List.set_cons_succ]))
        (refine rg_y (i:=21) (some 38) (v:=?_) rfl rfl (by kernel_rfl) (by kernel_rfl) (by kernel_rfl) (fun _ _ _ h=>h) (by kernel_rfl) ?_ (by assumption) ?_;rotate_left 1;focus (intro w hSw;(try dsimp only at hSw);(first | (go_simp;done) | (go_simp;with_reducible rfl)));(try simp only[Act.put,List.setIfInBounds_toArray,List.set_cons_zero,List.set_cons_succ]))
        (refine rg_y (i:=22) (some 39) (v:=?_) rfl rfl (by kernel_rfl) (by kernel_rfl) (by kernel_rfl) (fun _ _ _ h=>h) (by kernel_rfl) ?_ (by assumption) ?_;rotate_left 1;focus (intro w hSw;(try dsimp only at hSw);(first | (go_simp;done) | (go_simp;with_reducible rfl)));(try simp only[Act.put,List.setIfInBounds_toArray,List.set_cons_zero,List.set_cons_succ]))
        (refine rg_y (i:=23) (some 40) (v:=?_) rfl rfl (by kernel_rfl) (by kernel_rfl) (by kernel_rfl) (fun _ _ _ h=>h) (by kernel_rfl) ?_ (by assumption) ?_;rotate_left 1;focus (intro w hSw;(try dsimp only at hSw);(first | (go_simp;done) | (go_simp;with_reducible rfl)));(try simp only[Act.put,List.setIfInBounds_toArray,List.set_cons_zero,List.set_cons_succ]))
        (refine wpAnyH_ready (rs:=[24]) (by kernel_rfl) (by simp) ?_;refine AllReadyH.cons (o:=_) rfl (fun K hK=>?_) AllReadyH.nil)
        go_simp
        (go_at_call 159;(with_reducible refine (HO.out _ hHeld.2.2.2.2).mono ?_);rintro _ w2 ⟨rfl,hb⟩)
        go_wp2_with fail
        refine hK.out _ _ (keepB hb hHeld (by simp [vals_size])) (fun hHeld=>?_)
        clear hb
        (clear hK K;(try simp only[Act.put,List.setIfInBounds_toArray,List.set_cons_zero,List.set_cons_succ]))
        (refine rg_y (i:=25) (some 42) (v:=?_) rfl rfl (by kernel_rfl) (by kernel_rfl) (by kernel_rfl) (fun _ _ _ h=>h) (by kernel_rfl) ?_ (by assumption) ?_;rotate_left 1;focus (intro w hSw;(try dsimp only at hSw);(first | (go_simp;done) | (go_simp;with_reducible rfl)));(try simp only[Act.put,List.setIfInBounds_toArray,List.set_cons_zero,List.set_cons_succ]))
        (refine rg_y (i:=26) (some 43) (v:=?_) rfl rfl (by kernel_rfl) (by kernel_rfl) (by kernel_rfl) (fun _ _ _ h=>h) (by kernel_rfl) ?_ (by assumption) ?_;rotate_left 1;focus (intro w hSw;(try dsimp only at hSw);(first | (go_simp;done) | (go_simp;with_reducible rfl)));(try simp only[Act.put,List.setIfInBounds_toArray,List.set_cons_zero,List.set_cons_succ]))
        (refine rg_y (i:=27) (some 44) (v:=?_) rfl rfl (by kernel_rfl) (by kernel_rfl) (by kernel_rfl) (fun _ _ _ h=>h) (by kernel_rfl) ?_ (by assumption) ?_;rotate_left 1;focus (intro w hSw;(try dsimp only at hSw);(first | (go_simp;done) | (go_simp;with_reducible rfl)));(try simp only[Act.put,List.setIfInBounds_toArray,List.set_cons_zero,List.set_cons_succ]))
        refine wpAnyH_done (by kernel_rfl) ?_ _
        go_wp2_with fail
        go_roundw
        case rel=>exact⟨k+1,k,by omega,by go_num,rfl,BI2.take (by rw[HH.out];rfl) HAH.out,HBW.out.after hHeld.2.2.2.2⟩
        case measure=>simp [intOf];omega
      · have q5:decide (od<0)=false:=decide_eq_false hod
        rw[q5] at hah
        have HAH:=Lib.hid hah
        clear hah
        go_upto_region 5 with fail
        refine wp_region_held_drew (S:=fun w'=>row w' wr.heap.size=(F k).e.vals (.slice a1 (F k).n1 c1) (.slice a2 (F k).n2 c2)∧w'.cell? ⟨wr.heap.size,0,none⟩=some (.int .i64 (F k).e.kind)∧w'.cell? ⟨wr.heap.size,1,none⟩=some (.string (F k).e.name)∧w'.cell? ⟨b,o+i*33+1,none⟩=some (.string (F i).e.name)∧Below (wr.alloc (.cells ((F k).e.vals (.slice a1 (F k).n1 c1) (.slice a2 (F k).n2 c2)) 27)).heap.size (wr.alloc (.cells ((F k).e.vals (.slice a1 (F k).n1 c1) (.slice a2 (F k).n2 c2)) 27)) w') (by kernel_rfl) ?_ (fun hHeld=>?_)
        · exact⟨R0,N0,N1,N2,Below.drew (Below.refl _ _)⟩
        (refine rg_y (i:=0) (some 17) (v:=?_) rfl rfl (by kernel_rfl) (by kernel_rfl) (by kernel_rfl) (fun _ _ _ h=>h) (by kernel_rfl) ?_ (by assumption) ?_;rotate_left 1;focus (intro w hSw;(try dsimp only at hSw);(first | (go_simp;done) | (go_simp;with_reducible rfl)));(try simp only[Act.put,List.setIfInBounds_toArray,List.set_cons_zero,List.set_cons_succ]))
        (refine rg_y (i:=1) (some 18) (v:=?_) rfl rfl (by kernel_rfl) (by kernel_rfl) (by kernel_rfl) (fun _ _ _ h=>h) (by kernel_rfl) ?_ (by assumption) ?_;rotate_left 1;focus (intro w hSw;(try dsimp only at hSw);(first | (go_simp;done) | (go_simp;with_reducible rfl)));(try simp only[Act.put,List.setIfInBounds_toArray,List.set_cons_zero,List.set_cons_succ]))
        (refine rg_y (i:=2) (some 19) (v:=?_) rfl rfl (by kernel_rfl) (by kernel_rfl) (by kernel_rfl) (fun _ _ _ h=>h) (by kernel_rfl) ?_ (by assumption) ?_;rotate_left 1;focus (intro w hSw;(try dsimp only at hSw);(first | (go_simp;done) | (go_simp;with_reducible rfl)));(try simp only[Act.put,List.setIfInBounds_toArray,List.set_cons_zero,List.set_cons_succ]))
        (refine rg_y (i:=3) (some 20) (v:=?_) rfl rfl (by kernel_rfl) (by kernel_rfl) (by kernel_rfl) (fun _ _ _ h=>h) (by kernel_rfl) ?_ (by assumption) ?_;rotate_left 1;focus (intro w hSw;(try dsimp only at hSw);(first | (go_simp;done) | (go_simp;with_reducible rfl)));(try simp only[Act.put,List.setIfInBounds_toArray,List.set_cons_zero,List.set_cons_succ]))
        refine rg_y (i:=4) (some 21) (v:=.agg ((F k).e.vals (.slice a1 (F k).n1 c1) (.slice a2 (F k).n2 c2))) rfl rfl (by kernel_rfl) (by kernel_rfl) (by kernel_rfl) (fun _ _ _ h=>h) (by kernel_rfl) (fun w hSw=>?_) (by assumption) ?_
        · refine (ldEnt _ w _ _ _ _ _ _ rfl (by show (row w wr.heap.size).size=33;rw[hSw.1];exact vals_size _ _ _)).trans ?_
          show Result.ok (Next.value (.agg (row w wr.heap.size))) w=_
          rw[hSw.1]
        (try simp only[Act.put,List.setIfInBounds_toArray,List.set_cons_zero,List.set_cons_succ])
        (refine wpAnyH_ready (rs:=[5]) (by kernel_rfl) (by simp) ?_;refine AllReadyH.cons (o:=_) rfl (fun K hK=>?_) AllReadyH.nil)
        go_simp
        (go_at_call 10;(with_reducible refine (HV.out _ hHeld.2.2.2.2).mono ?_);rintro _ w2 ⟨rfl,hb⟩)
        go_wp2_with fail
        refine hK.out _ _ (keepB hb hHeld (by simp [vals_size])) (fun hHeld=>?_)
        clear hb
        (clear hK K;(try simp only[Act.put,List.setIfInBounds_toArray,List.set_cons_zero,List.set_cons_succ]))
        (refine rg_y (i:=6) (some 23) (v:=?_) rfl rfl (by kernel_rfl) (by kernel_rfl) (by kernel_rfl) (fun _ _ _ h=>h) (by kernel_rfl) ?_ (by assumption) ?_;rotate_left 1;focus (intro w hSw;(try dsimp only at hSw);(first | (go_simp;done) | (go_simp;with_reducible rfl)));(try simp only[Act.put,List.setIfInBounds_toArray,List.set_cons_zero,List.set_cons_succ]))
        (refine rg_y (i:=7) (some 24) (v:=?_) rfl rfl (by kernel_rfl) (by kernel_rfl) (by kernel_rfl) (fun _ _ _ h=>h) (by kernel_rfl) ?_ (by assumption) ?_;rotate_left 1;focus (intro w hSw;(try dsimp only at hSw);(first | (go_simp;done) | (go_simp;with_reducible rfl)));(try simp only[Act.put,List.setIfInBounds_toArray,List.set_cons_zero,List.set_cons_succ]))
        (refine rg_y (i:=8) (some 25) (v:=?_) rfl rfl (by kernel_rfl) (by kernel_rfl) (by kernel_rfl) (fun _ _ _ h=>h) (by kernel_rfl) ?_ (by assumption) ?_;rotate_left 1;focus (intro w hSw;(try dsimp only at hSw);(first | (go_simp;done) | (go_simp;with_reducible rfl)));(try simp only[Act.put,List.setIfInBounds_toArray,List.set_cons_zero,List.set_cons_succ]))
        (refine rg_y (i:=9) (some 26) (v:=?_) rfl rfl (by kernel_rfl) (by kernel_rfl) (by kernel_rfl) (fun _ _ _ h=>h) (by kernel_rfl) ?_ (by assumption) ?_;rotate_left 1;focus (intro w hSw;(try dsimp only at hSw);(first | (go_simp;done) | (go_simp;with_reducible rfl)));(try simp only[Act.put,List.setIfInBounds_toArray,List.set_cons_zero,List.set_cons_succ]))
        (refine rg_y (i:=10) (some 27) (v:=?_) rfl rfl (by kernel_rfl) (by kernel_rfl) (by kernel_rfl) (fun _ _ _ h=>h) (by kernel_rfl) ?_ (by assumption) ?_;rotate_left 1;focus (intro w hSw;(try dsimp only at hSw);(first | (go_simp;done) | (go_simp;with_reducible rfl)));(try simp only[Act.put,List.setIfInBounds_toArray,List.set_cons_zero,List.set_cons_succ]))
        (refine wpAnyH_ready (rs:=[11]) (by kernel_rfl) (by simp) ?_;refine AllReadyH.cons (o:=_) rfl (fun K hK=>?_) AllReadyH.nil)
        go_simp
        (go_at_call 158;(with_reducible refine (HM.out _ hHeld.2.2.2.2).mono ?_);rintro _ w2 ⟨rfl,hb⟩)
        go_wp2_with fail
        refine hK.out _ _ (keepB hb hHeld (by simp [vals_size])) (fun hHeld=>?_)
        clear hb
        (clear hK K;(try simp only[Act.put,List.setIfInBounds_toArray,List.set_cons_zero,List.set_cons_succ]))
        (refine rg_y (i:=12) (some 29) (v:=?_) rfl rfl (by kernel_rfl) (by kernel_rfl) (by kernel_rfl) (fun _ _ _ h=>h) (by kernel_rfl) ?_ (by assumption) ?_;rotate_left 1;focus (intro w hSw;(try dsimp only at hSw);(first | (go_simp;done) | (go_simp;with_reducible rfl)));(try simp only[Act.put,List.setIfInBounds_toArray,List.set_cons_zero,List.set_cons_succ]))
        (refine rg_y (i:=13) (some 30) (v:=?_) rfl rfl (by kernel_rfl) (by kernel_rfl) (by kernel_rfl) (fun _ _ _ h=>h) (by kernel_rfl) ?_ (by assumption) ?_;rotate_left 1;focus (intro w hSw;(try dsimp only at hSw);(first | (go_simp;done) | (go_simp;with_reducible rfl)));(try simp only[Act.put,List.setIfInBounds_toArray,List.set_cons_zero,List.set_cons_succ]))
        (refine rg_y (i:=14) (some 31) (v:=?_) rfl rfl (by kernel_rfl) (by kernel_rfl) (by kernel_rfl) (fun _ _ _ h=>h) (by kernel_rfl) ?_ (by assumption) ?_;rotate_left 1;focus (intro w hSw;(try dsimp only at hSw);(first | (go_simp;done) | (go_simp;with_reducible rfl)));(try simp only[Act.put,List.setIfInBounds_toArray,List.set_cons_zero,List.set_cons_succ]))
        (refine rg_y (i:=15) (some 32) (v:=?_) rfl rfl (by kernel_rfl) (by kernel_rfl) (by kernel_rfl) (fun _ _ _ h=>h) (by kernel_rfl) ?_ (by assumption) ?_;rotate_left 1;focus (intro w hSw;(try dsimp only at hSw);(first | (go_simp;done) | (go_simp;with_reducible rfl)));(try simp only[Act.put,List.setIfInBounds_toArray,List.set_cons_zero,List.set_cons_succ]))
        (refine rg_y (i:=16) (some 33) (v:=?_) rfl rfl (by kernel_rfl) (by kernel_rfl) (by kernel_rfl) (fun _ _ _ h=>h) (by kernel_rfl) ?_ (by assumption) ?_;rotate_left 1;focus (intro w hSw;(try dsimp only at hSw);(first | (go_simp;done) | (go_simp;with_reducible rfl)));(try simp only[Act.put,List.setIfInBounds_toArray,List.set_cons_zero,List.set_cons_succ]))
        (refine rg_y (i:=17) (some 34) (v:=?_) rfl rfl (by kernel_rfl) (by kernel_rfl) (by kernel_rfl) (fun _ _ _ h=>h) (by kernel_rfl) ?_ (by assumption) ?_;rotate_left 1;focus (intro w hSw;(try dsimp only at hSw);(first | (go_simp;done) | (go_simp;with_reducible rfl)));(try simp only[Act.put,List.setIfInBounds_toArray,List.set_cons_zero,List.set_cons_succ]))
        (refine rg_y (i:=18) (some 35) (v:=?_) rfl rfl (by kernel_rfl) (by kernel_rfl) (by kernel_rfl) (fun _ _ _ h=>h) (by kernel_rfl) ?_ (by assumption) ?_;rotate_left 1;focus (intro w hSw;(try dsimp only at hSw);(first | (go_simp;done) | (go_simp;with_reducible rfl)));(try simp only[Act.put,List.setIfInBounds_toArray,List.set_cons_zero,List.set_cons_succ]))
        (refine rg_y (i:=19) (some 36) (v:=?_) rfl rfl (by kernel_rfl) (by kernel_rfl) (by kernel_rfl) (fun _ _ _ h=>h) (by kernel_rfl) ?_ (by assumption) ?_;rotate_left 1;focus (intro w hSw;(try dsimp only at hSw);(first | (go_simp;done) | (go_simp;with_reducible rfl)));(try simp only[Act.put,List.setIfInBounds_toArray,List.set_cons_zero,List.set_cons_succ]))
        (refine rg_y (i:=20) (some 37) (v:=?_) rfl rfl (by kernel_rfl) (by kernel_rfl) (by kernel_rfl) (fun _ _ _ h=>h) (by kernel_rfl) ?_ (by assumption) ?_;rotate_left 1;focus (intro w hSw;(try dsimp only at hSw);(first | (go_simp;done) | (go_simp;with_reducible rfl)));(try simp only[Act.put,List.setIfInBounds_toArray,List.set_cons_zero,List.set_cons_succ]))
        (refine rg_y (i:=21) (some 38) (v:=?_) rfl rfl (by kernel_rfl) (by kernel_rfl) (by kernel_rfl) (fun _ _ _ h=>h) (by kernel_rfl) ?_ (by assumption) ?_;rotate_left 1;focus (intro w hSw;(try dsimp only at hSw);(first | (go_simp;done) | (go_simp;with_reducible rfl)));(try simp only[Act.put,List.setIfInBounds_toArray,List.set_cons_zero,List.set_cons_succ]))
        (refine rg_y (i:=22) (some 39) (v:=?_) rfl rfl (by kernel_rfl) (by kernel_rfl) (by kernel_rfl) (fun _ _ _ h=>h) (by kernel_rfl) ?_ (by assumption) ?_;rotate_left 1;focus (intro w hSw;(try dsimp only at hSw);(first | (go_simp;done) | (go_simp;with_reducible rfl)));(try simp only[Act.put,List.setIfInBounds_toArray,List.set_cons_zero,List.set_cons_succ]))
        (refine rg_y (i:=23) (some 40) (v:=?_) rfl rfl (by kernel_rfl) (by kernel_rfl) (by kernel_rfl) (fun _ _ _ h=>h) (by kernel_rfl) ?_ (by assumption) ?_;rotate_left 1;focus (intro w hSw;(try dsimp only at hSw);(first | (go_simp;done) | (go_simp;with_reducible rfl)));(try simp only[Act.put,List.setIfInBounds_toArray,List.set_cons_zero,List.set_cons_succ]))
        (refine wpAnyH_ready (rs:=[24]) (by kernel_rfl) (by simp) ?_;refine AllReadyH.cons (o:=_) rfl (fun K hK=>?_) AllReadyH.nil)
        go_simp
        (go_at_call 159;(with_reducible refine (HO.out _ hHeld.2.2.2.2).mono ?_);rintro _ w2 ⟨rfl,hb⟩)
        go_wp2_with fail
        refine hK.out _ _ (keepB hb hHeld (by simp [vals_size])) (fun hHeld=>?_)
        clear hb
        (clear hK K;(try simp only[Act.put,List.setIfInBounds_toArray,List.set_cons_zero,List.set_cons_succ]))
        (refine rg_y (i:=25) (some 42) (v:=?_) rfl rfl (by kernel_rfl) (by kernel_rfl) (by kernel_rfl) (fun _ _ _ h=>h) (by kernel_rfl) ?_ (by assumption) ?_;rotate_left 1;focus (intro w hSw;(try dsimp only at hSw);(first | (go_simp;done) | (go_simp;with_reducible rfl)));(try simp only[Act.put,List.setIfInBounds_toArray,List.set_cons_zero,List.set_cons_succ]))
        (refine rg_y (i:=26) (some 43) (v:=?_) rfl rfl (by kernel_rfl) (by kernel_rfl) (by kernel_rfl) (fun _ _ _ h=>h) (by kernel_rfl) ?_ (by assumption) ?_;rotate_left 1;focus (intro w hSw;(try dsimp only at hSw);(first | (go_simp;done) | (go_simp;with_reducible rfl)));(try simp only[Act.put,List.setIfInBounds_toArray,List.set_cons_zero,List.set_cons_succ]))
        (refine rg_y (i:=27) (some 44) (v:=?_) rfl rfl (by kernel_rfl) (by kernel_rfl) (by kernel_rfl) (fun _ _ _ h=>h) (by kernel_rfl) ?_ (by assumption) ?_;rotate_left 1;focus (intro w hSw;(try dsimp only at hSw);(first | (go_simp;done) | (go_simp;with_reducible rfl)));(try simp only[Act.put,List.setIfInBounds_toArray,List.set_cons_zero,List.set_cons_succ]))
        refine wpAnyH_done (by kernel_rfl) ?_ _
        go_wp2_with fail
        go_roundw
        case rel=>exact⟨k+1,i,by omega,by go_num,rfl,HJ.out.keep (Or.inr HAH.out),HBW.out.after hHeld.2.2.2.2⟩
        case measure=>simp [intOf];omega
  · obtain rfl:k=n:=by omega
    rcases HJ.out with ⟨hno,rfl⟩ | ⟨i,rfl,hik,hso⟩
    · have H33:=held_of HBW.out.1 (show zE.size=33 from rfl) (by decide)
      go_wp2_with fail
      refine bodyPost_ret (res_row_tmp (n:=32) rfl Tryz.underlying27 rfl (by kernel_rfl) _ _ w.heap.size rfl (by rw[row_setRow H33];rfl)) rfl ?_
      rw[row_setRow H33]
      exact⟨Or.inl ⟨hno,rfl⟩,below_setRow HBW.out.2 (Nat.le_refl _) _⟩
    · obtain⟨b,o,rfl,hb,a1,c1,a2,c2,hmid,-,-,hgs⟩:=(HES.out.below HBW.out.2).2 i hik
      obtain⟨-,hg⟩:=hgs (HF.out i hik).2
      have hz:(mid wr b (o+i*33)).size=33:=by rw[hmid];exact vals_size _ _ _
      have hone:=vals_one (F i).e (.slice a1 (F i).n1 c1) (.slice a2 (F i).n2 c2) rfl rfl
      have i1:(0:Int)≤(i:Int):=by omega
      have i2:(i:Int)<(k:Int):=by omega
      have i3:¬ ((i:Int)<0):=by omega
      have HG:=Lib.hid hg
      have HSO:=Lib.hid hso
      clear hg hgs hso
      have hone2:=fun v (h:one v=true)=>vals_one (F i).e (.slice a1 (F i).n1 c1) v rfl h
      go_wp2_with (go_at_call 160;(refine (gr_clone _ _ _ (HG.out.below ((Below.refl _ _).alloc (Nat.le_refl _) _))).mono ?_);rintro _ w2 ⟨v',rfl,hgs,hown,hb2⟩;obtain⟨a',c',rfl,-⟩:=id hgs;obtain⟨R3,H3,C3,Z3,B3,K3⟩:=best_end (.slice a' (F i).gs.length c') HBW.out hb2;have O3:=hone2 _ (gs_one hgs);have HK3:=Lib.hid K3;have HB3:=Lib.hid B3;have HGS:=Lib.hid hgs;have HOW:=Lib.hid hown;clear hb2 K3 B3 hgs hown)
      refine bodyPost_ret (res_row_tmp (n:=32) rfl Tryz.underlying27 rfl (by kernel_rfl) _ _ w.heap.size rfl ((congrArg Array.size (row_setRow H3 _)).trans (vals_size (F i).e (.slice a1 (F i).n1 c1) _))) rfl ?_
      rw[row_setRow H3]
      exact⟨Or.inr ⟨F i,a1,c1,_,HSO.out,rfl,HGS.out.keep _ HOW.out (by simp) (fun q h1 h2=>HK3.out _ q h1 h2)⟩,HB3.out _⟩
end Go.Proofs.YtlmgolkgodfmpaaGreatDoor
end
section
/- Contracts of package access: the rules of Level. -/
namespace Go.Proofs.YtlmgolkgodfmpaaGreatDoor
open Go.RowKit
set_option maxHeartbeats 4000000
set_option maxRecDepth 8000
attribute [local go_sem ↓] ldEnt
attribute [local go_sem] Held_drew isHead_mk headOf_mk cellsOfV_mk isAggV_mk row_drew row_drewN vals_size vals_0 vals_1 vals_28 vals_31 vals_32
theorem first_eq (l:List UInt8) (u:ByteArray):(l==u.toList)=decide (l=Ds.bl u):=by
 rw[show u.toList=Ds.bl u from Lib.toList_data u,Bool.eq_iff_iff,beq_iff_eq,decide_eq_true_eq]
theorem emp_of (u:ByteArray) (h:u.size=0):u=⟨#[]⟩:=Ds.bl_inj (List.eq_nil_of_length_eq_zero (by rw[Ds.bl_length];exact h))
theorem ac_l1 (name u:ByteArray) (pn pu:Nat) (w:World) (hm:MaxL w) (h1:w.cell? ⟨pn,0,none⟩=some (.string name)) (h2:w.cell? ⟨pu,0,none⟩=some (.string u)) :
  Calls Tryz.prog 161 #[.pointer (some ⟨pn,0,none⟩),.pointer (some ⟨pu,0,none⟩)] w fun r w'=>r=.returned (.tuple #[.int .i64 3,.bool (decide (Ds.first 1 (Ds.bl name)=Ds.bl u))])∧Below w.heap.size w w':=by
 have hf:=fun W (b:Below w.heap.size w W)=>ds_first 1 name W (hm.below b)
 have D:=Lib.hid (first_eq (Ds.first 1 (Ds.bl name)) u)
 have HF:=Lib.hid hf
 clear hf
 go_enter Tryz.func161,Tryz.ntmps161
 go_wp2_with fail
 go_region_held3 (fun w'=>w'.cell? ⟨pn,0,none⟩=some (.string name)∧w'.cell? ⟨pu,0,none⟩=some (.string u)∧Below w.heap.size w w') (first | assumption | exact⟨h1,h2,Below.drew (Below.refl _ _)⟩ | exact⟨below_cell hb (by assumption:_∧_∧Below _ _ _).1,below_cell hb (by assumption:_∧_∧Below _ _ _).2.1,bt (by assumption:_∧_∧Below _ _ _).2.2 hb⟩) (first | (go_at_call 162;(with_reducible refine (HF.out _ (by assumption:_∧_∧Below _ _ _).2.2).mono ?_);rintro _ w2 ⟨rfl,hb⟩))
 all_goals
  go_wp2_with fail
  go_ret2
  exact⟨by rw[D.out];rfl,(by assumption:_∧_∧Below _ _ _).2.2⟩
theorem ac_l2 (ok:Bool) (po:Nat) (w:World) (h1:w.cell? ⟨po,0,none⟩=some (.bool ok)) :
  Calls Tryz.prog 163 #[.pointer (some ⟨po,0,none⟩)] w fun r w'=>r=.returned (.tuple #[.int .i64 0,.bool (!ok)])∧Below w.heap.size w w':=by
 go_enter Tryz.func163,Tryz.ntmps163
 go_wp2_with fail
 go_quiet (fail)
 go_wp2_with fail
 go_ret2
 exact⟨rfl,below_drewN (Below.refl _ _) _⟩
theorem ac_l3 (e:En) (al gr:Value) (u:ByteArray) (pp pu:Nat) (w:World) (h1:w.cell? ⟨pu,0,none⟩=some (.string u)) (h2:row w pp=e.vals al gr) :
  Calls Tryz.prog 164 #[.pointer (some ⟨pu,0,none⟩),.pointer (some ⟨pp,0,none⟩)] w fun r w'=>r=.returned (.tuple #[.int .i64 3,.bool (decide (u≠⟨#[]⟩)&&decide (e.owner=u))])∧Below w.heap.size w w':=by
 have c8:=cell_row h2 28 _ (vals_28 e al gr)
 clear h2
 by_cases h0:u.size=0
 · have e0:u.toList.isEmpty=true:=isEmpty_nil _ h0
   have E:Hid (decide (u≠⟨#[]⟩)=false):=Lib.hid (decide_eq_false (fun h=>h (emp_of u h0)))
   clear h0
   go_enter Tryz.func164,Tryz.ntmps164
   go_wp2_with fail
   go_quiet (fail)
   go_wp2_with fail
   go_ret2
   exact⟨by rw[E.out];rfl,below_drewN (Below.refl _ _) _⟩
 · have e0:u.toList.isEmpty=false:=isEmpty_of _ (by omega)
   have D:=Lib.hid (tl_beq e.owner u)
   have E:Hid (decide (u≠⟨#[]⟩)=true):=Lib.hid (decide_eq_true (fun h=>h0 (by rw[h];rfl)))
   clear h0
   go_enter Tryz.func164,Tryz.ntmps164
   go_wp2_with fail
   go_quiet (fail)
   go_wp2_with fail
   go_ret2
   exact⟨by rw[E.out,Bool.true_and,← D.out];rfl,below_drewN (Below.refl _ _) _⟩
theorem ent_l4:EntF 167:=enters_of Tryz.func167 (by kernel_rfl) rfl
theorem ent_l5:EntF 169:=enters_of Tryz.func169 (by kernel_rfl) rfl
theorem ac_l4 (e:En) (al gr:Value) (gs:List Gr) (u:ByteArray) (pp pu:Nat) (w:World) (h1:w.cell? ⟨pu,0,none⟩=some (.string u)) (h2:row w pp=e.vals al gr) (hg:GS w gr gs) :
  Calls Tryz.prog 165 #[.pointer (some ⟨pp,0,none⟩),.pointer (some ⟨pu,0,none⟩)] w fun r w'=>r=.returned (.tuple #[.int .i64 (gmax (isU u) gs 0),.bool (gs.any (isU u))])∧Below w.heap.size w w':=by
 have hc:=ac_granted e al gr gs 167 (.pointer (some ⟨pu,0,none⟩)) (isU u) w ent_l4 hg (fun g W b=>ac_isU g u pu W (below_cell b h1))
 have HC:=Lib.hid hc
 have hz:(row w pp).size=33:=by rw[h2];exact vals_size _ _ _
 clear hc h1 hg
 go_enter Tryz.func165,Tryz.ntmps165
 go_wp2_with (go_at_call 166;(with_reducible refine (HC.out).mono ?_);rintro _ w2 ⟨rfl,hb⟩)
 go_ret2
 exact⟨rfl,hb⟩
theorem ac_l5 (e:En) (al gr gv:Value) (gs:List Gr) (l:List ByteArray) (pp pg:Nat) (w:World) (h1:w.cell? ⟨pg,0,none⟩=some gv) (hl:SS w gv l) (h2:row w pp=e.vals al gr) (hg:GS w gr gs) :
  Calls Tryz.prog 168 #[.pointer (some ⟨pp,0,none⟩),.pointer (some ⟨pg,0,none⟩)] w fun r w'=>r=.returned (.tuple #[.int .i64 (gmax (isG l) gs 0),.bool (gs.any (isG l))])∧Below w.heap.size w w':=by
 have hc:=ac_granted e al gr gs 169 (.pointer (some ⟨pg,0,none⟩)) (isG l) w ent_l5 hg (fun g W b=>ac_isG g gv l pg W (below_cell b h1) (hl.below b))
 have HC:=Lib.hid hc
 have hz:(row w pp).size=33:=by rw[h2];exact vals_size _ _ _
 clear hc h1 hg hl
 go_enter Tryz.func168,Tryz.ntmps168
 go_wp2_with (go_at_call 166;(with_reducible refine (HC.out).mono ?_);rintro _ w2 ⟨rfl,hb⟩)
 go_ret2
 exact⟨rfl,hb⟩
end Go.Proofs.YtlmgolkgodfmpaaGreatDoor
end
section
/- Contracts of package access: Level. -/
namespace Go.Proofs.YtlmgolkgodfmpaaGreatDoor
open Go.RowKit
set_option maxHeartbeats 8000000
set_option maxRecDepth 8000
theorem setRow_new2 (w:World) (zs cs:Array Value) (t:TypeId) (o:Obj):((w.alloc (.cells zs t)).alloc o).setRow w.heap.size cs=(w.alloc (.cells cs t)).alloc o:=by
 unfold World.setRow World.alloc
 congr 1
 apply Array.ext_getElem?
 intro i
 simp only[Array.getElem?_modify,Array.getElem?_push,Array.size_push]
 by_cases h:w.heap.size=i
 · subst h;simp
 · rw[if_neg h]
   by_cases h2:i=w.heap.size+1
   · rw[if_pos h2,if_pos h2]
   · rw[if_neg h2,if_neg h2,if_neg (fun e=>h e.symm),if_neg (fun e=>h e.symm)]
theorem stEnt2 (ev:Operand→Value) (w:World) (zs:Array Value) (t:TypeId) (o:Obj) (dst x y t' pos af gd) (h0:zs.size=33) (h1:isHead (ev x)=true) (h2:headOf (ev x)=w.heap.size) (h3:isAggV (ev y)=true) (h4:(cellsOfV (ev y)).size=33) (h5:allOne (cellsOfV (ev y)).toList=true) :
  (execOp ev ⟨dst,.store 27 x y,t',pos,af,gd⟩).run Tryz.prog ((w.alloc (.cells zs t)).alloc o)=.ok .skip ((w.alloc (.cells (cellsOfV (ev y)) t)).alloc o):=by
 have hH:Held ((w.alloc (.cells zs t)).alloc o) w.heap.size 33:=⟨by rw[row_new2];exact h0,by decide,fun q=>by simp⟩
 rw[← setRow_new2 w zs (cellsOfV (ev y)) t o,← h2]
 exact stEntRow ev _ dst x y t' pos af gd h1 (by rw[h2];exact hH) h3 h4 h5
def fns (a b:Nat):Array Value:=#[.func (.func 161) #[] #[.pointer (some ⟨a+1+1,0,none⟩),.pointer (some ⟨a,0,none⟩)],.func (.func 163) #[] #[.pointer (some ⟨b+1,0,none⟩)],.func (.func 164) #[] #[.pointer (some ⟨a,0,none⟩),.pointer (some ⟨b,0,none⟩)],.func (.func 165) #[] #[.pointer (some ⟨b,0,none⟩),.pointer (some ⟨a,0,none⟩)],.func (.func 168) #[] #[.pointer (some ⟨b,0,none⟩),.pointer (some ⟨a+1,0,none⟩)]]
def LV (w W:World) (g:Nat) (u name:ByteArray) (gv:Value) (cs:Array Value) (ok:Bool):Prop :=
 (W.cell? ⟨w.heap.size,0,none⟩=some (.string u)∧W.cell? ⟨w.heap.size+1,0,none⟩=some gv∧W.cell? ⟨w.heap.size+1+1,0,none⟩=some (.string name))∧(row W g=cs∧W.cell? ⟨g+1,0,none⟩=some (.bool ok)∧row W (g+1+1)=fns w.heap.size g)∧0<cs.size∧Below w.heap.size w W
theorem LV.below {w W W':World} {g:Nat} {u name:ByteArray} {gv:Value} {cs:Array Value} {ok:Bool} (h:LV w W g u name gv cs ok) (hb:Below W.heap.size W W'):LV w W' g u name gv cs ok:=by
 obtain⟨⟨h1,h2,h3⟩,⟨h4,h5,h6⟩,h0,h7⟩:=h
 exact⟨⟨below_cell hb h1,below_cell hb h2,below_cell hb h3⟩,⟨row_below hb h4 h0,below_cell hb h5,row_below hb h6 (by unfold fns;simp)⟩,h0,bt h7 hb⟩
theorem LV.mk {w w2:World} {u name:ByteArray} {gv:Value} {cs:Array Value} {ok:Bool} (c1:w2.cell? ⟨w.heap.size,0,none⟩=some (.string u)) (c2:w2.cell? ⟨w.heap.size+1,0,none⟩=some gv) (c3:w2.cell? ⟨w.heap.size+1+1,0,none⟩=some (.string name)) (h0:0<cs.size) (hb:Below w.heap.size w w2) (t1 t2 t3:TypeId) :
  LV w (((w2.alloc (.cells cs t1)).alloc (.cells #[.bool ok] t2)).alloc (.cells (fns w.heap.size w2.heap.size) t3)) w2.heap.size u name gv cs ok:=by
 have hs:=hb.size
 have b1:Below w2.heap.size w2 (((w2.alloc (.cells cs t1)).alloc (.cells #[.bool ok] t2)).alloc (.cells (fns w.heap.size w2.heap.size) t3)):=by exact belA
 have s1:(w2.alloc (.cells cs t1)).heap.size=w2.heap.size+1:=by simp
 have s2:((w2.alloc (.cells cs t1)).alloc (.cells #[.bool ok] t2)).heap.size=w2.heap.size+1+1:=by simp
 refine⟨⟨below_cell b1 c1,below_cell b1 c2,below_cell b1 c3⟩,⟨?_,?_,?_⟩,h0,bt hb b1⟩
 · exact row_of (t:=t1) (fr:=(0,0)) ((heap_alloc_old _ _ (by simp;omega)).trans ((heap_alloc_old _ _ (by simp)).trans (heap_alloc_new w2 _)))
 · have h:=heap_alloc_new (w2.alloc (.cells cs t1)) (.cells #[.bool ok] t2)
   rw[s1] at h
   have h':=(heap_alloc_old ((w2.alloc (.cells cs t1)).alloc (.cells #[.bool ok] t2)) (.cells (fns w.heap.size w2.heap.size) t3) (by rw[s2];omega:w2.heap.size+1<_)).trans h
   exact (cell_of_row _ _ 0 _ _ _ h').trans rfl
 · have h:=row_new ((w2.alloc (.cells cs t1)).alloc (.cells #[.bool ok] t2)) (fns w.heap.size w2.heap.size) t3 (0,0)
   rw[s2] at h;exact h
attribute [local go_sem ↓] ldEnt stEnt stEnt2
attribute [local go_sem] isHead_mk headOf_mk cellsOfV_mk isAggV_mk row_new row_new2 row_new2' row_drew row_drewN vals_size allOne_nil allOne_cons one_int one_bool one_string one_pointer one_slice one_func
theorem ac_level_no (v gv:Value) (u name:ByteArray) (w:World) (hm:MaxL w) (hn:Ds.name (Ds.bl name)=false) :
  Calls Tryz.prog 97 #[v,.string u,gv,.string name] w fun r w'=>r=.returned (.int .i64 0)∧Below w.heap.size w w':=by
 have hv:=fun W (b:Below w.heap.size w W)=>ds_valid name W (hm.below b)
 rw[hn] at hv
 have HV:=Lib.hid hv
 clear hv hn
 go_enter Tryz.func97,Tryz.ntmps97
 go_wp2_with (go_at_call 42;(with_reducible refine (HV.out _ (by exact belA)).mono ?_);rintro _ w2 ⟨rfl,hb⟩;have B:=Below.trans (show Below w.heap.size w _ by exact belA) (hb.mono (by simp;omega));clear hb)
 go_ret
 exact⟨rfl,B⟩
theorem LV.facts {w W:World} {g:Nat} {u name:ByteArray} {gv:Value} {cs:Array Value} {ok:Bool} (h:LV w W g u name gv cs ok) :
  W.cell? ⟨g+1+1,0,none⟩=some (.func (.func 161) #[] #[.pointer (some ⟨w.heap.size+1+1,0,none⟩),.pointer (some ⟨w.heap.size,0,none⟩)])∧W.cell? ⟨g+1+1,1,none⟩=some (.func (.func 163) #[] #[.pointer (some ⟨g+1,0,none⟩)])∧W.cell? ⟨g+1+1,2,none⟩=some (.func (.func 164) #[] #[.pointer (some ⟨w.heap.size,0,none⟩),.pointer (some ⟨g,0,none⟩)])∧W.cell? ⟨g+1+1,3,none⟩=some (.func (.func 165) #[] #[.pointer (some ⟨g,0,none⟩),.pointer (some ⟨w.heap.size,0,none⟩)])∧W.cell? ⟨g+1+1,4,none⟩=some (.func (.func 168) #[] #[.pointer (some ⟨g,0,none⟩),.pointer (some ⟨w.heap.size+1,0,none⟩)]) :=
 ⟨cell_row h.2.1.2.2 0 _ rfl,cell_row h.2.1.2.2 1 _ rfl,cell_row h.2.1.2.2 2 _ rfl,cell_row h.2.1.2.2 3 _ rfl,cell_row h.2.1.2.2 4 _ rfl⟩
theorem lvl_yes (l:List Ef) (u:ByteArray) (gr:List ByteArray) (name:ByteArray) (hn:Ds.name (Ds.bl name)=true):lvl l u gr name=if Ds.first 1 (Ds.bl name)=Ds.bl u then 3 else match best (Ds.bl name) l with | none=>0 | some x=>plvl x u gr:=by
 unfold lvl;rw[hn];rfl
def own3 (x:Ef) (u:ByteArray):Bool:=decide (u≠⟨#[]⟩)&&decide (x.e.owner=u)
theorem pl3 (x:Ef) (u:ByteArray) (gl:List ByteArray) (h:own3 x u=true):plvl x u gl=3:=by unfold plvl;rw[if_pos (show (decide (u≠⟨#[]⟩)&&decide (x.e.owner=u))=true from h)]
theorem pl4 (x:Ef) (u:ByteArray) (gl:List ByteArray) (h:own3 x u=false) (h4:x.gs.any (isU u)=true):plvl x u gl=gmax (isU u) x.gs 0:=by
 unfold plvl;rw[if_neg (by rw[show (decide (u≠⟨#[]⟩)&&decide (x.e.owner=u))=false from h];simp),if_pos h4]
theorem pl5 (x:Ef) (u:ByteArray) (gl:List ByteArray) (h:own3 x u=false) (h4:x.gs.any (isU u)=false) (h5:x.gs.any (isG gl)=true):plvl x u gl=gmax (isG gl) x.gs 0:=by
 unfold plvl;rw[if_neg (by rw[show (decide (u≠⟨#[]⟩)&&decide (x.e.owner=u))=false from h];simp),if_neg (by rw[h4];simp),if_pos h5]
theorem pl6 (x:Ef) (u:ByteArray) (gl:List ByteArray) (h:own3 x u=false) (h4:x.gs.any (isU u)=false) (h5:x.gs.any (isG gl)=false):plvl x u gl=x.e.lev:=by
 unfold plvl;rw[if_neg (by rw[show (decide (u≠⟨#[]⟩)&&decide (x.e.owner=u))=false from h];simp),if_neg (by rw[h4];simp),if_neg (by rw[h5];simp)]
theorem ac_level (a:Option Addr) (n c:Nat) (F:Nat→Ef) (u name:ByteArray) (gv:Value) (gl:List ByteArray) (w:World) (hm:MaxL w) (hES:ES w a n F) (hn:n≤1000) (hF:∀ k,k<n→(F k).e.name.size≤60∧(F k).n2≤1000) (hgl:SS w gv gl) :
  Calls Tryz.prog 97 #[.slice a n c,.string u,gv,.string name] w fun r w'=>r=.returned (.int .i64 (lvl (lst F n) u gl name))∧Below w.heap.size w w':=by
 cases hnm:Ds.name (Ds.bl name)
 · have e:lvl (lst F n) u gl name=0:=by unfold lvl;rw[hnm];rfl
   rw[e]
   exact ac_level_no _ _ _ _ _ hm hnm
 rw[lvl_yes _ _ _ _ hnm]
 generalize hA:(if Ds.first 1 (Ds.bl name)=Ds.bl u then (3:Int) else match best (Ds.bl name) (lst F n) with | none=>0 | some x=>plvl x u gl)=A
 have HA:=Lib.hid hA
 clear hA
 obtain⟨ga,gc,rfl,-⟩:=id hgl
 have hv:=fun W (b:Below w.heap.size w W)=>ds_valid name W (hm.below b)
 rw[hnm] at hv
 have hbest:=fun W (b:Below w.heap.size w W)=>ac_best a n c F name W (hm.below b) (hES.below b) hn hF
 have hl1:=fun g W cs ok (V:LV w W g u name (.slice ga gl.length gc) cs ok)=>ac_l1 name u (w.heap.size+1+1) w.heap.size W (hm.below V.2.2.2) V.1.2.2 V.1.1
 have hl2:=fun g W cs ok (V:LV w W g u name (.slice ga gl.length gc) cs ok)=>ac_l2 ok (g+1) W V.2.1.2.1
 have HV:=Lib.hid hv
 have HB:=Lib.hid hbest
 have HGL:=Lib.hid hgl
 have HL1:=Lib.hid hl1
 have HL2:=Lib.hid hl2
 have z1:allOne zE.toList=true:=by unfold zE zlit;simp [go_sem,allOne_nil,allOne_cons,one_int,one_bool,one_string,one_slice]
 have z2:zE.size=33:=rfl
 clear hv hbest hnm hES hF hgl hl1 hl2
 go_enter Tryz.func97,Tryz.ntmps97
 go_wp2_with (first
  | (go_at_call 42;(with_reducible refine (HV.out _ (by exact belA)).mono ?_);rintro _ w1 ⟨rfl,hb⟩;have c1:w1.cell? ⟨w.heap.size,0,none⟩=some (.string u):=(hb.cell (p:=⟨w.heap.size,0,none⟩) (by simp;omega)).trans (by simp [go_sem]);have c2:w1.cell? ⟨w.heap.size+1,0,none⟩=some (.slice ga gl.length gc):=(hb.cell (p:=⟨w.heap.size+1,0,none⟩) (by simp)).trans (by simp [go_sem]);have c3:w1.cell? ⟨w.heap.size+1+1,0,none⟩=some (.string name):=(hb.cell (p:=⟨w.heap.size+1+1,0,none⟩) (by simp)).trans (by simp [go_sem]);have B1:=Below.trans (show Below w.heap.size w _ by exact belA) (hb.mono (by simp;omega));clear hb)
  | (go_at_call 96;(refine (HB.out _ B1).mono ?_);rintro _ w2 ⟨hr,hb⟩;have d1:=below_cell hb c1;have d2:=below_cell hb c2;have d3:=below_cell hb c3;have B2:=bt B1 hb;clear hb;rcases hr with ⟨hso,rfl⟩ | ⟨x,a1,k1,gr,hso,rfl,hgs⟩;rotate_left 1;have HGS:=Lib.hid hgs;have hone:=vals_one x.e (.slice a1 x.n1 k1) gr rfl (gs_one hgs);clear hgs))
 · go_loopw [33] (fun i wr=>(LV w wr w2.heap.size u name (.slice ga gl.length gc) (x.e.vals (.slice a1 x.n1 k1) gr) true∧Below w2.heap.size w2 wr)∧((i=.int .i64 0)∨(i=.int .i64 1∧decide (Ds.first 1 (Ds.bl name)=Ds.bl u)=false)∨(i=.int .i64 2∧decide (Ds.first 1 (Ds.bl name)=Ds.bl u)=false)∨(i=.int .i64 3∧decide (Ds.first 1 (Ds.bl name)=Ds.bl u)=false∧own3 x u=false)∨(i=.int .i64 4∧decide (Ds.first 1 (Ds.bl name)=Ds.bl u)=false∧own3 x u=false∧x.gs.any (isU u)=false)∨(i=.int .i64 5∧decide (Ds.first 1 (Ds.bl name)=Ds.bl u)=false∧own3 x u=false∧x.gs.any (isU u)=false∧x.gs.any (isG gl)=false))) (fun i _=>5 - (intOf i).toNat)
   case atStart=>exact⟨⟨LV.mk d1 d2 d3 (by rw[vals_size];decide) B2 _ _ _,by have:=B2.size;exact belA⟩,Or.inl rfl⟩
   case round =>
    obtain⟨⟨V,B⟩,rfl | ⟨rfl,t1⟩ | ⟨rfl,t1⟩ | ⟨rfl,t1,t2⟩ | ⟨rfl,t1,t2,t3⟩ | ⟨rfl,t1,t2,t3,t4⟩⟩:=hrel
    · obtain⟨f0,f1,f2,f3,f4⟩:=V.facts
      have h:=HL1.out _ _ _ _ V
      rcases Bool.eq_false_or_eq_true (decide (Ds.first 1 (Ds.bl name)=Ds.bl u)) with t1 | t1
      · rw[t1] at h
        go_wp2_with (go_at_call 161;(with_reducible refine h.mono ?_);rintro _ w4 ⟨rfl,hb⟩)
        go_ret
        exact⟨by rw[← HA.out,if_pos (of_decide_eq_true t1)];rfl,bt V.2.2.2 hb⟩
      · rw[t1] at h
        go_wp2_with (go_at_call 161;(with_reducible refine h.mono ?_);rintro _ w4 ⟨rfl,hb⟩)
        go_roundw
        case rel=>exact⟨⟨V.below hb,bt B hb⟩,Or.inr (Or.inl (⟨rfl,t1⟩))⟩
        case measure=>simp [intOf]
    · obtain⟨f0,f1,f2,f3,f4⟩:=V.facts
      have h:=HL2.out _ _ _ _ V
      go_wp2_with (go_at_call 163;(with_reducible refine h.mono ?_);rintro _ w4 ⟨rfl,hb⟩)
      go_roundw
      case rel=>exact⟨⟨V.below hb,bt B hb⟩,Or.inr (Or.inr (Or.inl (⟨rfl,t1⟩)))⟩
      case measure=>simp [intOf]
    · obtain⟨f0,f1,f2,f3,f4⟩:=V.facts
      have h:=ac_l3 x.e (.slice a1 x.n1 k1) gr u w2.heap.size w.heap.size wr V.1.1 V.2.1.1
      rw[show (decide (u≠⟨#[]⟩)&&decide (x.e.owner=u))=own3 x u from rfl] at h
      rcases Bool.eq_false_or_eq_true (own3 x u) with t2 | t2
      · rw[t2] at h
        go_wp2_with (go_at_call 164;(with_reducible refine h.mono ?_);rintro _ w4 ⟨rfl,hb⟩)
        go_ret
        refine⟨?_,bt V.2.2.2 hb⟩
        rw[← HA.out,if_neg (of_decide_eq_false t1),hso];simp only;rw[pl3 x u gl t2];rfl
      · rw[t2] at h
        go_wp2_with (go_at_call 164;(with_reducible refine h.mono ?_);rintro _ w4 ⟨rfl,hb⟩)
        go_roundw
        case rel=>exact⟨⟨V.below hb,bt B hb⟩,Or.inr (Or.inr (Or.inr (Or.inl (⟨rfl,t1,t2⟩))))⟩
        case measure=>simp [intOf]
    · obtain⟨f0,f1,f2,f3,f4⟩:=V.facts
      have h:=ac_l4 x.e (.slice a1 x.n1 k1) gr x.gs u w2.heap.size w.heap.size wr V.1.1 V.2.1.1 (HGS.out.below B)
      rcases Bool.eq_false_or_eq_true (x.gs.any (isU u)) with t3 | t3
      · rw[t3] at h
        go_wp2_with (go_at_call 165;(with_reducible refine h.mono ?_);rintro _ w4 ⟨rfl,hb⟩)
        go_ret
        refine⟨?_,bt V.2.2.2 hb⟩
        rw[← HA.out,if_neg (of_decide_eq_false t1),hso];simp only;rw[pl4 x u gl t2 t3];rfl
      · rw[t3] at h
        go_wp2_with (go_at_call 165;(with_reducible refine h.mono ?_);rintro _ w4 ⟨rfl,hb⟩)
        go_roundw
        case rel=>exact⟨⟨V.below hb,bt B hb⟩,Or.inr (Or.inr (Or.inr (Or.inr (Or.inl (⟨rfl,t1,t2,t3⟩)))))⟩
        case measure=>simp [intOf]
    · obtain⟨f0,f1,f2,f3,f4⟩:=V.facts
      have h:=ac_l5 x.e (.slice a1 x.n1 k1) gr (.slice ga gl.length gc) x.gs gl w2.heap.size (w.heap.size+1) wr V.1.2.1 (HGL.out.below V.2.2.2) V.2.1.1 (HGS.out.below B)
      rcases Bool.eq_false_or_eq_true (x.gs.any (isG gl)) with t4 | t4
      · rw[t4] at h
        go_wp2_with (go_at_call 168;(with_reducible refine h.mono ?_);rintro _ w4 ⟨rfl,hb⟩)
        go_ret
        refine⟨?_,bt V.2.2.2 hb⟩
        rw[← HA.out,if_neg (of_decide_eq_false t1),hso];simp only;rw[pl5 x u gl t2 t3 t4];rfl
      · rw[t4] at h
        go_wp2_with (go_at_call 168;(with_reducible refine h.mono ?_);rintro _ w4 ⟨rfl,hb⟩)
        go_roundw
        case rel=>exact⟨⟨V.below hb,bt B hb⟩,Or.inr (Or.inr (Or.inr (Or.inr (Or.inr (⟨rfl,t1,t2,t3,t4⟩)))))⟩
        case measure=>simp [intOf]
    · obtain⟨f0,f1,f2,f3,f4⟩:=V.facts
      have c31:=cell_row V.2.1.1 31 _ (vals_31 x.e _ _)
      go_wp2_with fail
      go_ret
      refine⟨?_,V.2.2.2⟩
      rw[← HA.out,if_neg (of_decide_eq_false t1),hso];simp only;rw[pl6 x u gl t2 t3 t4];rfl
 · go_loopw [33] (fun i wr=>(LV w wr w2.heap.size u name (.slice ga gl.length gc) zE false∧Below w2.heap.size w2 wr)∧((i=.int .i64 0)∨(i=.int .i64 1∧decide (Ds.first 1 (Ds.bl name)=Ds.bl u)=false))) (fun i _=>5 - (intOf i).toNat)
   case atStart=>exact⟨⟨LV.mk d1 d2 d3 (by rw[z2];decide) B2 _ _ _,by have:=B2.size;exact belA⟩,Or.inl rfl⟩
   case round =>
    obtain⟨⟨V,B⟩,rfl | ⟨rfl,t1⟩⟩:=hrel
    · obtain⟨f0,f1,f2,f3,f4⟩:=V.facts
      have h:=HL1.out _ _ _ _ V
      rcases Bool.eq_false_or_eq_true (decide (Ds.first 1 (Ds.bl name)=Ds.bl u)) with t1 | t1
      · rw[t1] at h
        go_wp2_with (go_at_call 161;(with_reducible refine h.mono ?_);rintro _ w4 ⟨rfl,hb⟩)
        go_ret
        exact⟨by rw[← HA.out,if_pos (of_decide_eq_true t1)];rfl,bt V.2.2.2 hb⟩
      · rw[t1] at h
        go_wp2_with (go_at_call 161;(with_reducible refine h.mono ?_);rintro _ w4 ⟨rfl,hb⟩)
        go_roundw
        case rel=>exact⟨⟨V.below hb,bt B hb⟩,Or.inr (⟨rfl,t1⟩)⟩
        case measure=>simp [intOf]
    · obtain⟨f0,f1,f2,f3,f4⟩:=V.facts
      have h:=HL2.out _ _ _ _ V
      go_wp2_with (go_at_call 163;(with_reducible refine h.mono ?_);rintro _ w4 ⟨rfl,hb⟩)
      go_ret
      exact⟨by rw[← HA.out,if_neg (of_decide_eq_false t1),hso];rfl,bt V.2.2.2 hb⟩
end Go.Proofs.YtlmgolkgodfmpaaGreatDoor
end
