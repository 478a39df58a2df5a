/- Contract of the reference of chapter 33: fields at any kind, Decode. -/
import Derived.Test.YtnojclchnhmggaaGreatDoorRy
import Derived.Test.YtnojclchnhmggaaGreatDoorAcA
import Derived.Test.YtnojclchnhmggaaGreatDoorDcA
import Derived.Test.YtnojclchnhmggaaGreatDoorRtF
import Derived.Test.YtnojclchnhmggaaGreatDoorRg0
import Derived.Deep.CutBlock
namespace Go.Proofs.YtnojclchnhmggaaGreatDoor
open Go.RowKit
section
theorem held_ne {w:World} {g p n m:Nat} (h:Held w g n) (h2:Held w p m) (hn:n≠m):g≠p:=fun e=>by subst e;exact hn (h.1.symm.trans h2.1)
theorem held_a (w:World) (o:Obj) (g n:Nat) (h:Held w g n):Held (w.alloc o) g n:=h.below ((Below.refl _ _).alloc (Nat.le_refl _) o)
theorem held_n (w:World) (cs:Array Value) (t:TypeId) (h:cs.size=33):Held (w.alloc (.cells cs t)) w.heap.size 33:=Held.new w cs t _ h (by decide)
theorem held_m (w:World) (cs:Array Value) (t:TypeId) (h:cs.size=2):Held (w.alloc (.cells cs t)) w.heap.size 2:=Held.new w cs t _ h (by decide)
theorem held_r (w:World) (c:Array Value) (g p:Nat) (h:Held w g 33) (h2:Held w p 2):Held (w.setRow p c) g 33:=h.set c (fun e=>absurd e.symm (held_ne h h2 (by decide)))
theorem held_p (w:World) (c:Array Value) (g p:Nat) (h:Held w g 2) (h2:Held w p 33):Held (w.setRow p c) g 2:=h.set c (fun e=>absurd e.symm (held_ne h h2 (by decide)))
theorem held_v (w:World) (e:En) (al gr:Value) (g p:Nat) (h:Held w g 33):Held (w.setRow p (e.vals al gr)) g 33:=h.set _ (fun _=>vals_size _ _ _)
theorem hv_n (w:World) (e:En) (al gr:Value) (t:TypeId):Held (w.alloc (.cells (e.vals al gr) t)) w.heap.size 33:=held_n _ _ _ (vals_size _ _ _)
theorem hv_b (w:World) (e:En) (al gr:Value) (t:TypeId) (o:Obj):Held ((w.alloc o).alloc (.cells (e.vals al gr) t)) (w.heap.size+1) 33:=by
 have:=hv_n (w.alloc o) e al gr t
 rwa [show (w.alloc o).heap.size=w.heap.size+1 by simp] at this
theorem hz_n (w:World) (t:TypeId):Held (w.alloc (.cells #[.int .i64 0,.string ⟨#[]⟩,.int .i64 0,.int .i64 0,.int .i64 0,.int .i64 0,.int .i64 0,.int .i64 0,.int .i64 0,.int .i64 0,.int .i64 0,.int .i64 0,.int .i64 0,.int .i64 0,.int .i64 0,.int .i64 0,.bool false,.int .i64 0,.string ⟨#[]⟩,.string ⟨#[]⟩,.int .i64 0,.int .i64 0,.bool false,.slice none 0 0,.int .i64 0,.int .i64 0,.int .i64 0,.bool false,.string ⟨#[]⟩,.string ⟨#[]⟩,.int .i64 0,.int .i64 0,.slice none 0 0] t)) w.heap.size 33:=held_n _ _ _ rfl
theorem hz_a (w:World) (t:TypeId) (o:Obj):Held ((w.alloc (.cells #[.int .i64 0,.string ⟨#[]⟩,.int .i64 0,.int .i64 0,.int .i64 0,.int .i64 0,.int .i64 0,.int .i64 0,.int .i64 0,.int .i64 0,.int .i64 0,.int .i64 0,.int .i64 0,.int .i64 0,.int .i64 0,.int .i64 0,.bool false,.int .i64 0,.string ⟨#[]⟩,.string ⟨#[]⟩,.int .i64 0,.int .i64 0,.bool false,.slice none 0 0,.int .i64 0,.int .i64 0,.int .i64 0,.bool false,.string ⟨#[]⟩,.string ⟨#[]⟩,.int .i64 0,.int .i64 0,.slice none 0 0] t)).alloc o) w.heap.size 33:=held_a _ _ _ _ (hz_n _ _)
theorem hz_b (w:World) (t:TypeId) (o:Obj):Held ((w.alloc o).alloc (.cells #[.int .i64 0,.string ⟨#[]⟩,.int .i64 0,.int .i64 0,.int .i64 0,.int .i64 0,.int .i64 0,.int .i64 0,.int .i64 0,.int .i64 0,.int .i64 0,.int .i64 0,.int .i64 0,.int .i64 0,.int .i64 0,.int .i64 0,.bool false,.int .i64 0,.string ⟨#[]⟩,.string ⟨#[]⟩,.int .i64 0,.int .i64 0,.bool false,.slice none 0 0,.int .i64 0,.int .i64 0,.int .i64 0,.bool false,.string ⟨#[]⟩,.string ⟨#[]⟩,.int .i64 0,.int .i64 0,.slice none 0 0] t)) (w.heap.size+1) 33:=by
 have:=hz_n (w.alloc o) t
 rwa [show (w.alloc o).heap.size=w.heap.size+1 by simp] at this
theorem hm_n (w:World) (t:TypeId):Held (w.alloc (.cells #[.string ⟨#[]⟩,.int .i64 0] t)) w.heap.size 2:=held_m _ _ _ rfl
theorem hm_a (w:World) (t:TypeId) (o:Obj):Held ((w.alloc (.cells #[.string ⟨#[]⟩,.int .i64 0] t)).alloc o) w.heap.size 2:=held_a _ _ _ _ (hm_n _ _)
theorem hm_b (w:World) (t:TypeId) (o:Obj):Held ((w.alloc o).alloc (.cells #[.string ⟨#[]⟩,.int .i64 0] t)) (w.heap.size+1) 2:=by
 have:=hm_n (w.alloc o) t
 rwa [show (w.alloc o).heap.size=w.heap.size+1 by simp] at this
theorem row_p (w:World) (c:Array Value) (p:Nat) (h:Held w p 33):row (w.setRow p c) p=c:=row_setRow h c
theorem row_r (w:World) (c:Array Value) (p:Nat) (h:Held w p 2):row (w.setRow p c) p=c:=row_setRow h c
theorem row_pr (w:World) (c:Array Value) (g p:Nat) (h:Held w g 33) (h2:Held w p 2):row (w.setRow p c) g=row w g:=row_set_ne _ _ _ _ (held_ne h h2 (by decide))
theorem row_rp (w:World) (c:Array Value) (g p:Nat) (h:Held w g 2) (h2:Held w p 33):row (w.setRow p c) g=row w g:=row_set_ne _ _ _ _ (held_ne h h2 (by decide))
theorem row_a33 (w:World) (o:Obj) (g:Nat) (h:Held w g 33):row (w.alloc o) g=row w g:=row_below ((Below.refl _ _).alloc (Nat.le_refl _) o) rfl (by rw[h.1];decide)
theorem row_a2 (w:World) (o:Obj) (g:Nat) (h:Held w g 2):row (w.alloc o) g=row w g:=row_below ((Below.refl _ _).alloc (Nat.le_refl _) o) rfl (by rw[h.1];decide)
end
section
set_option maxHeartbeats 16000000
set_option maxRecDepth 8000
set_option linter.unusedSimpArgs false
def FldR (w w':World) (x:Fu) (st:List UInt8 × Nat) (r:Ending):Prop:=∃ (al gr:Value) (t:ByteArray),r=.returned (.tuple #[.agg (x.1.vals al gr),.agg #[.string t,.int .i64 st.2]])∧IS w' al x.2.1∧GS w' gr x.2.2∧Ds.bl t=st.1∧Below w.heap.size w w'∧(∀ y,al.ownBlock=some y->w.heap.size<=y)∧(∀ y,gr.ownBlock=some y->w.heap.size<=y)
theorem no_own:∀ (w:World) (y:Nat),(Value.slice none 0 0).ownBlock=some y->w.heap.size<=y:=fun _ _ h=>by cases h
theorem rrX_0 (n:ByteArray) (s:List UInt8 × Nat):rrX 0 n s=(((rrD (En.base 0 n) s).1,(rrD (En.base 0 n) s).2.1,[]),(rrD (En.base 0 n) s).2.2):=by unfold rrX;rw[if_pos rfl]
theorem rrX_1 (n:ByteArray) (s:List UInt8 × Nat):rrX 1 n s=(((rrG (En.base 1 n) s).1,[],[]),(rrG (En.base 1 n) s).2):=by unfold rrX;rw[if_neg (by decide),if_pos rfl]
theorem rrX_2 (n:ByteArray) (s:List UInt8 × Nat):rrX 2 n s=(((rrA (En.base 2 n) s).1,[],[]),(rrA (En.base 2 n) s).2):=by unfold rrX;rw[if_neg (by decide),if_neg (by decide),if_pos rfl]
theorem rrX_3 (n:ByteArray) (s:List UInt8 × Nat):rrX 3 n s=(((rrC (En.base 3 n) s).1,[],[]),(rrC (En.base 3 n) s).2):=by unfold rrX;rw[if_neg (by decide),if_neg (by decide),if_neg (by decide),if_pos rfl]
theorem rrX_4 (n:ByteArray) (s:List UInt8 × Nat):rrX 4 n s=(((rrP (En.base 4 n) s).1,[],(rrP (En.base 4 n) s).2.1),(rrP (En.base 4 n) s).2.2):=by unfold rrX;rw[if_neg (by decide),if_neg (by decide),if_neg (by decide),if_neg (by decide)]
theorem rfields_any (k:Int) (hk:0<=k∧k<=4) (nm l:ByteArray) (w:World) (hl:l.size<=1000) :
  Calls Tryz.prog 244 #[.agg (zlit k nm),.agg #[.string l,.int .i64 0]] w fun r w'=>FldR w w' (rrX k nm (Ds.bl l,0)).1 (rrX k nm (Ds.bl l,0)).2 r:=by
 rcases (by omega:k=0∨k=1∨k=2∨k=3∨k=4) with rfl | rfl | rfl | rfl | rfl
 · have h:=rfields0 nm l w hl
   rw[rrX_0]
   generalize rrD (En.base 0 nm) (Ds.bl l,0)=R at h ⊢
   refine h.mono ?_
   rintro r w' ⟨al,t,rfl,h1,h2,h3,h4⟩
   exact⟨al,.slice none 0 0,t,rfl,h1,GS.nil _,h2,h3,h4,no_own w⟩
 · have h:=rfields1 nm l w hl
   rw[rrX_1]
   generalize rrG (En.base 1 nm) (Ds.bl l,0)=R at h ⊢
   refine h.mono ?_
   rintro r w' ⟨t,rfl,h2,h3⟩
   exact⟨.slice none 0 0,.slice none 0 0,t,rfl,IS.nil _,GS.nil _,h2,h3,no_own w,no_own w⟩
 · have h:=rfields2 nm l w hl
   rw[rrX_2]
   generalize rrA (En.base 2 nm) (Ds.bl l,0)=R at h ⊢
   refine h.mono ?_
   rintro r w' ⟨t,rfl,h2,h3⟩
   exact⟨.slice none 0 0,.slice none 0 0,t,rfl,IS.nil _,GS.nil _,h2,h3,no_own w,no_own w⟩
 · have h:=rfields3 nm l w hl
   rw[rrX_3]
   generalize rrC (En.base 3 nm) (Ds.bl l,0)=R at h ⊢
   refine h.mono ?_
   rintro r w' ⟨t,rfl,h2,h3⟩
   exact⟨.slice none 0 0,.slice none 0 0,t,rfl,IS.nil _,GS.nil _,h2,h3,no_own w,no_own w⟩
 · have h:=rfields4 nm l w hl
   rw[rrX_4]
   generalize rrP (En.base 4 nm) (Ds.bl l,0)=R at h ⊢
   refine h.mono ?_
   rintro r w' ⟨gr,t,rfl,h1,h2,h3,h4⟩
   exact⟨.slice none 0 0,gr,t,rfl,IS.nil _,h1,h2,h3,no_own w,h4⟩
theorem rrX_name (k:Int) (hk:0<=k∧k<=4) (n:ByteArray) (s:List UInt8 × Nat):(rrX k n s).1.1.name=n:=by
 rcases (by omega:k=0∨k=1∨k=2∨k=3∨k=4) with rfl | rfl | rfl | rfl | rfl
 · rw[rrX_0];unfold rrD;rfl
 · rw[rrX_1];unfold rrG;rfl
 · rw[rrX_2];rfl
 · rw[rrX_3];rfl
 · rw[rrX_4];unfold rrP;rfl
theorem ref_short (s:ByteArray) (h:s.size<32∨200<s.size):decX (Ds.bl s)=none:=by
 unfold decX;rw[if_neg (by rw[Ds.bl_length];omega)]
structure DR (wr W:World) (p r:Nat) (x:Fu) (al gr:Value) (t:ByteArray) (st:List UInt8 × Nat):Prop where
 bel:Below wr.heap.size wr W
 p0:wr.heap.size<=p
 rp:row W p=x.1.vals al gr
 hp:Held W p 33
 rr:row W r=#[.string t,.int .i64 st.2]
 is:IS W al x.2.1
 gs:GS W gr x.2.2
 ao:∀ y,al.ownBlock=some y->wr.heap.size<=y
 go:∀ y,gr.ownBlock=some y->wr.heap.size<=y
 tx:Ds.bl t=st.1
theorem is_put {W:World} {al:Value} {l:List Int} {p:Nat} {c:Array Value} (h:IS W al l) (hs:∀ y,al.ownBlock=some y->l≠[]->y≠p):IS (W.setRow p c) al l:=by
 obtain⟨a,cc,rfl,h2,h3⟩:=h
 refine⟨a,cc,rfl,h2,fun h0=>?_⟩
 obtain⟨bb,o,rfl,hlt,hc⟩:=h3 h0
 have hb:=hs bb rfl (by intro e;rw[e] at h0;simp at h0)
 exact⟨bb,o,rfl,by simpa using hlt,fun k hk'=>(World.cell?_of_block (a:=⟨bb,o+k,none⟩) (setRow_block W p bb c hb)).trans (hc k hk')⟩
theorem gs_put {W:World} {al:Value} {l:List Gr} {p:Nat} {c:Array Value} (h:GS W al l) (hs:∀ y,al.ownBlock=some y->l≠[]->y≠p):GS (W.setRow p c) al l:=by
 obtain⟨a,cc,rfl,h2,h3⟩:=h
 refine⟨a,cc,rfl,h2,fun h0=>?_⟩
 obtain⟨bb,o,rfl,hlt,hc⟩:=h3 h0
 have hb:=hs bb rfl (by intro e;rw[e] at h0;simp at h0)
 have e:=setRow_block W p bb c hb
 refine⟨bb,o,rfl,by simpa using hlt,fun k hk'=>?_⟩
 obtain⟨q1,q2,q3⟩:=hc k hk'
 exact⟨(World.cell?_of_block (a:=⟨bb,o+k*3,none⟩) e).trans q1,(World.cell?_of_block (a:=⟨bb,o+k*3+1,none⟩) e).trans q2,(World.cell?_of_block (a:=⟨bb,o+k*3+2,none⟩) e).trans q3⟩
theorem is_lt {W:World} {al:Value} {l:List Int} (h:IS W al l):∀ y,al.ownBlock=some y->l≠[]->y<W.heap.size:=by
 obtain⟨a,cc,rfl,h2,h3⟩:=h
 intro y hy h0
 obtain⟨bb,o,rfl,hlt,hc⟩:=h3 (List.length_pos_iff.2 h0)
 cases hy
 exact hlt
theorem gs_lt {W:World} {al:Value} {l:List Gr} (h:GS W al l):∀ y,al.ownBlock=some y->l≠[]->y<W.heap.size:=by
 obtain⟨a,cc,rfl,h2,h3⟩:=h
 intro y hy h0
 obtain⟨bb,o,rfl,hlt,hc⟩:=h3 (List.length_pos_iff.2 h0)
 cases hy
 exact hlt
theorem DR.below {wr W W':World} {p r:Nat} {x:Fu} {al gr:Value} {t:ByteArray} {st:List UInt8 × Nat} (h:DR wr W p r x al gr t st) (hb:Below W.heap.size W W'):DR wr W' p r x al gr t st :=
 ⟨bt h.bel hb,h.p0,row_below hb h.rp (by rw[vals_size];decide),h.hp.below hb,row_below hb h.rr (Nat.zero_lt_succ 1),h.is.below hb,h.gs.below hb,h.ao,h.go,h.tx⟩
def TrR (c0:UInt8) (s:List UInt8) (k:Nat):Prop:=∀ j:Int,0<=j->j<k->Ek.letter j=c0->tryR j s=none
theorem TrR.next {c0:UInt8} {s:List UInt8} {k:Nat} (h:TrR c0 s k) (h2:Ek.letter k=c0->tryR k s=none):TrR c0 s (k+1):=by
 intro j h0 h1 hl
 by_cases e:j=k
 · subst e;exact h2 hl
 · exact h j h0 (by omega) hl
theorem TrR.all {s:List UInt8} (h:TrR (s.headD 0) s 5) (hl:32<=s.length∧s.length<=200):decX s=none:=by
 rw[decX_ref s hl]
 cases hk:kindOf (s.headD 0) with
 | none=>rfl
 | some k =>
   simp only
   have:0<=k∧k<5∧Ek.letter k=s.headD 0:=by
    unfold kindOf at hk
    (repeat' split at hk) <;> first | (cases hk;rename_i e;exact⟨by decide,by decide,e.symm⟩) | cases hk
   exact h k this.1 this.2.1 this.2.2
theorem decX_at (s:List UInt8) (k:Int) (x:Fu) (hl:32<=s.length∧s.length<=200) (hk:0<=k∧k<=4) (hc:Ek.letter k=s.headD 0) (h:tryR k s=some x):decX s=some x:=by
 rw[decX_ref s hl,<-hc,kindOf_letter k hk];exact h
theorem name_at (s:ByteArray) (h32:32<=s.size) (i:Nat) (hi:i<=31) (h:Ek.tlen ((Ds.bl s).drop 1 |>.take 31) 31=i):Ds.bl (s.extract 1 (i+1))=nameX (Ds.bl s):=by
 unfold nameX Ek.trim
 have hl:(((Ds.bl s).drop 1).take 31).length=31:=by rw[List.length_take,List.length_drop,Ds.bl_length];omega
 rw[hl,h,List.take_take,Nat.min_eq_left hi]
 unfold Ds.bl
 rw[ByteArray.data_extract,Array.toList_extract];rfl
theorem byte_in (s:ByteArray) (h32:32<=s.size) (i:Nat) (hi:i<31):((Ds.bl s).drop 1 |>.take 31)[i]?=some (s[i+1]'(by omega)):=by
 rw[List.getElem?_take_of_lt hi,List.getElem?_drop]
 unfold Ds.bl
 rw[Nat.add_comm 1 i,List.getElem?_eq_getElem (by simp;omega)]
 rfl
attribute [local go_sem ↓] ldEnt stEnt stEntRow ldRd stRd
attribute [local go_sem] Held_drew isHead_mk headOf_mk cellsOfV_mk isAggV_mk row_new row_new2 row_new2' row_drew row_drewN vals_size allOne_nil allOne_cons one_int one_bool one_string one_pointer one_slice
theorem rdec_short (s:ByteArray) (w:World) (h:s.size<32∨200<s.size) :
  Calls Tryz.prog 160 #[.string s] w fun r w'=>DecF w w' (Ds.bl s) r:=by
 have HD:=Lib.hid (ref_short s h)
 have fin:∀ w':World,w'=w.alloc (.cells (zlit 0 ⟨#[]⟩) 28)->DecF w w' (Ds.bl s) (.returned (.tuple #[.agg (row w' w.heap.size),.int .i64 11])):=fun w' e=>by
  subst e
  rw[row_new,zlit_eq]
  exact⟨(En.zero,[],[]),_,_,11,rfl,IS.nil _,GS.nil _,by exact belA,Or.inr ⟨HD.out,rfl,rfl⟩,(fun _ h=>by cases h),(fun _ h=>by cases h)⟩
 have HF:=Lib.hid fin
 clear fin
 rcases h with h | h
 · have e1:decide ((s.size:Int)<32)=true:=by rw[decide_eq_true_eq];omega
   clear h
   go_enter Tryz.func160,Tryz.ntmps160
   go_wp2_with fail
   refine bodyPost_ret (res_row_tmp (n:=32) rfl Tryz.underlying28 rfl (by kernel_rfl) _ _ w.heap.size rfl ?_) rfl ?_
   · rw[row_new];rfl
   · exact HF.out _ rfl
 · have e1:decide ((s.size:Int)<32)=false:=by rw[decide_eq_false_iff_not];omega
   have e2:decide (200<(s.size:Int))=true:=by rw[decide_eq_true_eq];omega
   clear h
   go_enter Tryz.func160,Tryz.ntmps160
   go_wp2_with fail
   refine bodyPost_ret (res_row_tmp (n:=32) rfl Tryz.underlying28 rfl (by kernel_rfl) _ _ w.heap.size rfl ?_) rfl ?_
   · rw[row_new];rfl
   · exact HF.out _ rfl
theorem idx_letter (k:Nat) (h:k<5) (w:World):(Instr.index 9 (.string ⟨#[68,71,65,67,80]⟩) (.int .i64 (k:Int))).run Tryz.prog w=.ok (.int .u8 ((Ek.letter k).toNat:Int)) w:=by
 rcases (by omega:k=0∨k=1∨k=2∨k=3∨k=4) with rfl | rfl | rfl | rfl | rfl <;> kernel_rfl
def recQ (x:Fu):ByteArray:=if okX x=true then ⟨(recX x).toArray⟩ else ⟨#[]⟩
theorem renc_q (x:Fu) (al gr:Value) (code:Int) (hc:code=if okX x=true then 0 else 1) (w:World) (hsz:x.1.name.size<=60) (h1:IS w al x.2.1) (h2:GS w gr x.2.2) :
  Calls Tryz.prog 104 #[.agg (x.1.vals al gr)] w fun r w'=>r=.returned (.tuple #[.string (recQ x),.int .i64 code])∧Below w.heap.size w w':=by
 subst hc
 refine (renc_any x al gr w hsz h1 h2).mono ?_
 rintro r w' ⟨t,rfl,ht,hb⟩
 obtain rfl:t=recQ x:=by
  refine Ds.bl_inj (ht.trans ?_)
  unfold recQ
  split
  · rw[Ds.bl_mk]
  · rfl
 exact⟨rfl,hb⟩
def Hit (x:Fu) (st:List UInt8 × Nat) (s:ByteArray):Prop:=Rd.fin st=0∧okX x=true∧recX x=Ds.bl s
theorem try_ways (x:Fu) (st:List UInt8 × Nat) (s:ByteArray) (code:Int) (hc:code=if okX x=true then 0 else 1):((((Rd.fin st:Nat):Int)==0)=false∧Hid (¬ Hit x st s))∨((((Rd.fin st:Nat):Int)==0)=true∧(code==0)=false∧Hid (¬ Hit x st s))∨((((Rd.fin st:Nat):Int)==0)=true∧(code==0)=true∧((recQ x).toList==s.toList)=false∧Hid (¬ Hit x st s))∨((((Rd.fin st:Nat):Int)==0)=true∧(code==0)=true∧((recQ x).toList==s.toList)=true∧Hid (Hit x st s)):=by
 unfold Hit
 subst hc
 rcases fin_two st with ⟨h1,h2⟩ | ⟨h1,h2⟩
 · cases h3:okX x
   · exact .inr (.inl ⟨h1,rfl,Lib.hid (by simp)⟩)
   · have hq:recQ x=⟨(recX x).toArray⟩:=by unfold recQ;rw[if_pos h3]
     have hb:((recQ x).toList==s.toList)=decide (recX x=Ds.bl s):=by
      rw[hq,Bool.eq_iff_iff,beq_iff_eq,decide_eq_true_eq,tl_inj]
      constructor
      · intro e;rw[<-e,Ds.bl_mk]
      · intro e;exact Ds.bl_inj ((Ds.bl_mk _).trans e)
     by_cases h4:recX x=Ds.bl s
     · exact .inr (.inr (.inr ⟨h1,rfl,hb.trans (decide_eq_true h4),Lib.hid ⟨h2.out,rfl,h4⟩⟩))
     · exact .inr (.inr (.inl ⟨h1,rfl,hb.trans (decide_eq_false h4),Lib.hid (fun h=>h4 h.2.2)⟩))
 · exact .inl ⟨h1,Lib.hid (fun h=>h2.out h.1)⟩
attribute [local go_sem] hz_n hz_a hz_b hm_n hm_a hm_b held_a held_p
attribute [local go_sem ↓ high] stEnt
theorem rdec_long (s:ByteArray) (w:World) (h32:32<=s.size) (h200:s.size<=200) :
  Calls Tryz.prog 160 #[.string s] w fun r w'=>DecF w w' (Ds.bl s) r:=by
 have hz0:0<s.size:=by omega
 have hz0i:(0:Int)<(s.size:Int):=by omega
 have HC0:=Lib.hid (hd_at s hz0)
 have hlen:32<=(Ds.bl s).length∧(Ds.bl s).length<=200:=by rw[Ds.bl_length];exact⟨h32,h200⟩
 have hrest:Ds.bl (s.extract 32 s.size)=(Ds.bl s).drop 32:=by
  unfold Ds.bl
  rw[ByteArray.data_extract,Array.toList_extract]
  show (s.data.toList.drop 32).take (s.size - 32)=_
  rw[List.take_of_length_le (by rw[List.length_drop,Array.length_toList];exact Nat.le_refl _)]
 have hzr:(s.extract 32 s.size).size<=1000:=by simp;omega
 have HRE:=Lib.hid hrest
 have HLN:=Lib.hid hlen
 have HZR:=Lib.hid hzr
 have HBI:=Lib.hid (fun i hi=>byte_in s h32 i hi)
 have HNA:=Lib.hid (fun i hi h=>name_at s h32 i hi h)
 obtain⟨lst,hlst⟩:∃ lst,((Ds.bl s).drop 1).take 31=lst:=⟨_,rfl⟩
 rw[hlst] at HBI HNA
 clear hrest hlen hzr hlst
 have e1:decide ((s.size:Int)<32)=false:=by rw[decide_eq_false_iff_not];omega
 have e2:decide (200<(s.size:Int))=false:=by rw[decide_eq_false_iff_not];omega
 have HH:=Lib.hid (Held.new w (zlit 0 ⟨#[]⟩) 28 33 rfl (by decide))
 have hzz:zlit 0 ⟨#[]⟩=En.zero.vals (.slice none 0 0) (.slice none 0 0):=zlit_eq _ _
 have zone:allOne (zlit 0 ⟨#[]⟩).toList=true:=by rw[hzz];exact vals_one _ _ _ rfl rfl
 have HZZ:=Lib.hid hzz
 clear hzz
 unfold zlit at zone
 go_enter Tryz.func160,Tryz.ntmps160
 go_wp2_with fail
 go_loopw [4] (fun kv wr=>∃ k:Nat,k<=5∧kv=.int .i64 k∧TrR s[0] (Ds.bl s) k∧Held wr w.heap.size 33∧Below w.heap.size w wr) (fun kv _=>5 - (intOf kv).toNat)
 case atStart=>exact⟨0,by omega,rfl,(fun j h0 h1=>by omega),HH.out,by exact belA⟩
 case round =>
  obtain⟨k,hk,rfl,hTr,hH,B⟩:=hrel
  have HTr:=Lib.hid hTr
  have HH1:=Lib.hid hH
  have HB:=Lib.hid B
  have z0:=hH.lt
  clear hTr hH B HH
  by_cases hlt:k<5
  · have t4:decide ((k:Int)<=4)=true:=by rw[decide_eq_true_eq];omega
    have hix:=fun W=>idx_letter k hlt W
    have HTI:Hid (Ek.letter k≠s[0]->TrR s[0] (Ds.bl s) (k+1)):=Lib.hid (fun h=>HTr.out.next (fun e=>absurd e h))
    by_cases hc:Ek.letter k=s[0]
    rotate_left
    · have t1:((s[0].toNat:Int) != ((Ek.letter k).toNat:Int))=true:=by rw[bne_iff_ne];intro h;exact hc (UInt8.toNat_inj.1 (by omega))
      have HQ:=Lib.hid (HTI.out hc)
      clear hc
      go_wp2_with fail
      go_quiet (fail)
      go_wp2_with fail
      go_roundw
      case rel=>exact⟨k+1,by omega,by go_num,HQ.out,HH1.out,HB.out.trans ⟨rfl,rfl,rfl,Nat.le_refl _,fun _ _=>rfl⟩⟩
      case measure=>simp [intOf];omega
    have t1:((s[0].toNat:Int) != ((Ek.letter k).toNat:Int))=false:=by rw[hc];simp
    have HC:=Lib.hid hc
    clear hc HTI
    obtain⟨wo,hwo⟩:∃ wo,wo=wr:=⟨_,rfl⟩
    subst hwo
    go_wp2_with fail
    go_quiet (fail)
    go_upto_block 2 with fail
    generalize hW:World.drewN wo _=W0
    have hw0:Below wo.heap.size wo W0:=by rw[<-hW];exact⟨rfl,rfl,rfl,Nat.le_refl _,fun _ _=>rfl⟩
    clear hW hix t1
    go_cut [5] from 28 to 38 (fun t5 wx=>∃ i:Nat,i<=31∧t5=.int .i64 ((i+1:Nat):Int)∧Ek.tlen lst 31=i∧wx=W0)
    case first =>
     go_wp2_with fail
     go_loopw [5] (fun ev wr2=>∃ i:Nat,i<=31∧ev=.int .i64 ((i+1:Nat):Int)∧Ek.tlen lst 31=Ek.tlen lst i∧wr2=W0) (fun ev _=>(intOf ev).toNat)
     case atStart=>exact⟨31,by omega,rfl,rfl,rfl⟩
     case round =>
      obtain⟨i,hi,rfl,ht,rfl⟩:=hrel
      have HE:=Lib.hid ht
      clear ht
      by_cases h0:0<i
      · obtain⟨j,rfl⟩:∃ j,i=j+1:=⟨i - 1,by omega⟩
        have hjs:j+1<s.size:=by omega
        have hji:((j:Int)+1)<(s.size:Int):=by omega
        have t7:decide ((1:Int)<(j:Int)+1+1)=true:=by rw[decide_eq_true_eq];omega
        have HJ:=Lib.hid (HBI.out j (by omega))
        have hx:=u8_32 s[j+1]
        by_cases h3:s[j+1]=32
        · rw[decide_eq_true h3] at hx
          have H3:=Lib.hid h3
          clear h3
          go_wp2_with fail
          go_roundw
          case rel=>exact⟨j,by omega,by go_num,by rw[HE.out];exact Ek.tlen_yes _ _ (by rw[HJ.out,H3.out]),by trivial⟩
          case measure=>simp [intOf];try omega
        · rw[decide_eq_false h3] at hx
          have H3:=Lib.hid h3
          clear h3
          go_wp2_with fail
          go_meet
          exact⟨j+1,hi,by go_num,by rw[HE.out];exact Ek.tlen_no _ _ (by rw[HJ.out];intro e;exact H3.out (Option.some.inj e)),by trivial⟩
      · obtain rfl:i=0:=by omega
        go_wp2_with fail
        go_meet
        exact⟨0,hi,by go_num,by rw[HE.out];rfl,by trivial⟩
    case rest =>
     obtain⟨i,hi,rfl,ht,rfl⟩:=hcut
     have hnm:=HNA.out i hi ht
     have his:i+1<=s.size:=by omega
     have j1:(0:Int)<=(i:Int)+1:=by omega
     have j2:(i:Int)+1<=(s.size:Int):=by omega
     have j3:(1:Int)<=(i:Int)+1:=by omega
     have j4:(32:Int)<=(s.size:Int):=by omega
     have hfl:=fun W=>rfields_any (k:Int) ⟨by omega,by omega⟩ (s.extract 1 (i+1)) (s.extract 32 s.size) W HZR.out
     obtain⟨x,st,hxs⟩:∃ x st,rrX (k:Int) (s.extract 1 (i+1)) (Ds.bl (s.extract 32 s.size),0)=(x,st):=⟨_,_,rfl⟩
     have hxn:=rrX_name (k:Int) ⟨by omega,by omega⟩ (s.extract 1 (i+1)) (Ds.bl (s.extract 32 s.size),0)
     rw[hxs] at hfl hxn
     have hsz:x.1.name.size<=60:=by
      rw[show x.1.name=s.extract 1 (i+1) from hxn];simp;omega
     have HTY:Hid (tryR (k:Int) (Ds.bl s)=if Rd.fin st=0∧okX x=true∧recX x=Ds.bl s then some x else none):=Lib.hid (by
      unfold tryR
      rw[<-hnm,<-HRE.out,Ds.mk_bl,hxs])
     have HFL:=Lib.hid hfl
     have HSZ:=Lib.hid hsz
     clear hnm hfl hxs hxn hsz ht
     unfold zlit at HFL
     go_upto_region 10 with fail
     go_cut [6,7] (fun t6 t7 wx=>∃ (p r:Nat) (al gr:Value) (t:ByteArray),t6=.pointer (some ⟨p,0,none⟩)∧t7=.pointer (some ⟨r,0,none⟩)∧DR wo wx p r x al gr t st)
     case first =>
      go_region_held3 (fun W=>Below wo.heap.size wo W) (first | exact hw0.drew | exact bt (by assumption) hb | exact Below.alloc (by assumption) (by first | (have:=hw0.size;simp;omega) | (have:=(by assumption:Below wo.heap.size wo _).size;simp at this ⊢;omega)) _ | exact below_setRow (by assumption) (by first | (have:=hw0.size;simp;omega) | (have q1:=hw0.size;have q2:=hb.size;simp at q2 ⊢;omega)) _ | exact Below.alloc HB2.out (by have q1:=HB2.out.size;first | exact q1 | (simp;omega)) _ | exact Below.alloc (Below.alloc HB2.out HB2.out.size _) (by have q1:=HB2.out.size;simp;omega) _) ((go_at_call 244;(with_reducible refine (HFL.out _).mono ?_);rintro _ w2 ⟨al,gr,t,rfl,hI,hG,htx,hb,ho1,ho2⟩;have hone:=vals_one x.1 al gr (is_one hI) (gs_one hG);have KH:=fun g n (h:Held _ g n)=>h.below hb;(try (have K6:Held w2 wc.heap.size 33:=KH _ 33 (hz_n _ _);have K6a:=fun o=>held_a w2 o _ _ K6));(try (have K6:Held w2 wc.heap.size 33:=KH _ 33 (hz_a _ _ _)));(try (have K6:Held w2 (wc.heap.size+1) 33:=KH _ 33 (hz_b _ _ _)));(try (have K7:Held w2 wc.heap.size 2:=KH _ 2 (hm_n _ _);have K7a:=fun o=>held_a w2 o _ _ K7));(try (have K7:Held w2 wc.heap.size 2:=KH _ 2 (hm_a _ _ _)));(try (have K7:Held w2 (wc.heap.size+1) 2:=KH _ 2 (hm_b _ _ _)));clear KH;have HB2:=Lib.hid (bt (by assumption:Below wo.heap.size wo _) hb);have HI:=Lib.hid hI;have HG:=Lib.hid hG;have HTX:=Lib.hid htx;have HO1:=Lib.hid ho1;have HO2:=Lib.hid ho2;have HL1:=Lib.hid (is_lt hI);have HL2:=Lib.hid (gs_lt hG);clear hI hG htx ho1 ho2))
      all_goals
       go_wp2_with fail
       go_meet
       have q1:=hw0.size
       have q2:=HB2.out.size
       have hh:=(by assumption:Below wo.heap.size wo _)
       refine⟨_,_,al,gr,t,rfl,rfl,hh,?_,?_,?_,?_,?_,?_,?_,?_,HTX.out⟩
       · omega
       · first | simp (maxDischargeDepth:=10) only [row_pr,row_rp,row_p,row_r,row_new,row_new2',hz_n,hz_a,hz_b,hm_n,hm_a,hm_b,hv_n,hv_b,held_v,held_p,held_r,K6,K6a] | simp (maxDischargeDepth:=10) only [row_pr,row_rp,row_p,row_r,row_new,row_new2',hz_n,hz_a,hz_b,hm_n,hm_a,hm_b,hv_n,hv_b,held_v,held_p,held_r,K7,K7a] | simp (maxDischargeDepth:=10) only [row_pr,row_rp,row_p,row_r,row_new,row_new2',hz_n,hz_a,hz_b,hm_n,hm_a,hm_b,hv_n,hv_b,held_v,held_p,held_r,K6,K7] | simp (maxDischargeDepth:=10) only [row_pr,row_rp,row_p,row_r,row_new,row_new2',hz_n,hz_a,hz_b,hm_n,hm_a,hm_b,hv_n,hv_b,held_v,held_p,held_r]
       · first | simp (maxDischargeDepth:=10) only [row_pr,row_rp,row_p,row_r,row_new,row_new2',hz_n,hz_a,hz_b,hm_n,hm_a,hm_b,hv_n,hv_b,held_v,held_p,held_r,K6,K6a] | simp (maxDischargeDepth:=10) only [row_pr,row_rp,row_p,row_r,row_new,row_new2',hz_n,hz_a,hz_b,hm_n,hm_a,hm_b,hv_n,hv_b,held_v,held_p,held_r,K7,K7a] | simp (maxDischargeDepth:=10) only [row_pr,row_rp,row_p,row_r,row_new,row_new2',hz_n,hz_a,hz_b,hm_n,hm_a,hm_b,hv_n,hv_b,held_v,held_p,held_r,K6,K7] | simp (maxDischargeDepth:=10) only [row_pr,row_rp,row_p,row_r,row_new,row_new2',hz_n,hz_a,hz_b,hm_n,hm_a,hm_b,hv_n,hv_b,held_v,held_p,held_r]
       · first | simp (maxDischargeDepth:=10) only [row_pr,row_rp,row_p,row_r,row_new,row_new2',hz_n,hz_a,hz_b,hm_n,hm_a,hm_b,hv_n,hv_b,held_v,held_p,held_r,K6,K6a] | simp (maxDischargeDepth:=10) only [row_pr,row_rp,row_p,row_r,row_new,row_new2',hz_n,hz_a,hz_b,hm_n,hm_a,hm_b,hv_n,hv_b,held_v,held_p,held_r,K7,K7a] | simp (maxDischargeDepth:=10) only [row_pr,row_rp,row_p,row_r,row_new,row_new2',hz_n,hz_a,hz_b,hm_n,hm_a,hm_b,hv_n,hv_b,held_v,held_p,held_r,K6,K7] | simp (maxDischargeDepth:=10) only [row_pr,row_rp,row_p,row_r,row_new,row_new2',hz_n,hz_a,hz_b,hm_n,hm_a,hm_b,hv_n,hv_b,held_v,held_p,held_r]
       · (repeat (first | exact HI.out | refine is_put ?_ ?_ | refine IS.below ?_ ((Below.refl _ _).alloc (Nat.le_refl _) _)))
         all_goals (intro y h1 h2 e;have a1:=HO1.out y h1;have a2:=HL1.out y h1 h2;simp at a1 e;omega)
       · (repeat (first | exact HG.out | refine gs_put ?_ ?_ | refine GS.below ?_ ((Below.refl _ _).alloc (Nat.le_refl _) _)))
         all_goals (intro y h1 h2 e;have a1:=HO2.out y h1;have a2:=HL2.out y h1 h2;simp at a1 e;omega)
       · intro y h1;have a1:=HO1.out y h1;simp at a1;omega
       · intro y h1;have a1:=HO2.out y h1;simp at a1;omega
     case rest =>
      obtain⟨p,r,al,gr,t,rfl,rfl,hD⟩:=hcut
      have hone:=vals_one x.1 al gr (is_one hD.is) (gs_one hD.gs)
      obtain⟨code,hcode⟩:∃ code:Int,code=if okX x=true then 0 else 1:=⟨_,rfl⟩
      have hway:=try_ways x st s code hcode
      have hen:=fun W (b:Below _ _ W)=>renc_q x al gr code hcode W HSZ.out (hD.is.below b) (hD.gs.below b)
      have hed:=fun W=>ry_end t st.2 W
      rw[show (Ds.bl t,st.2)=st by rw[hD.tx]] at hed
      have R1:=hD.rp
      have R2:=hD.rr
      have K1:=HH1.out.below hD.bel
      have HD:=Lib.hid hD
      have HEN:=Lib.hid hen
      have HED:=Lib.hid hed
      clear hcode hen hed hD HFL HSZ HBI HNA
      rcases hway with ⟨f1,hh⟩ | ⟨f1,f2,hh⟩ | ⟨f1,f2,f3,hh⟩ | ⟨f1,f2,f3,hh⟩
      all_goals
       go_wp2_with (first
        | (go_at_call 104;(with_reducible refine (HEN.out _ (Below.refl _ _)).mono ?_);rintro _ w4 ⟨rfl,hb⟩;have R3:=row_below hb R1 (by rw[vals_size];decide);have R4:=row_below hb R2 (Nat.zero_lt_succ 1);have K4:=K1.below hb;have B4:=Lib.hid (bt HD.out.bel hb);have B34:=Lib.hid hb;clear hb)
        | (go_at_call 162;(with_reducible refine (HED.out _).mono ?_);rintro _ w5 ⟨rfl,hb⟩;have R5:=row_below hb R3 (by rw[vals_size];decide);have K5:=K4.below hb;have B5:=Lib.hid (bt B4.out hb);have B35:=Lib.hid (bt B34.out hb);clear hb))
       first
       | (go_roundw
          case rel=>exact⟨k+1,by omega,by go_num,HTr.out.next (fun _=>HTY.out.trans (if_neg hh.out)),K5,bt HB.out B5.out⟩
          case measure=>simp [intOf];omega)
       | (refine bodyPost_ret (res_row_tmp (n:=32) rfl Tryz.underlying28 rfl (by kernel_rfl) _ _ w.heap.size rfl ?_) rfl ?_
          · rw[row_setRow K5];exact vals_size _ _ _
          · rw[row_setRow K5]
            refine⟨x,al,gr,0,rfl,is_put (HD.out.is.below B35.out) (fun y h1 _=>by have:=HD.out.ao y h1;omega),gs_put (HD.out.gs.below B35.out) (fun y h1 _=>by have:=HD.out.go y h1;omega),below_setRow (bt HB.out B5.out) (Nat.le_refl _) _,Or.inl ⟨decX_at _ _ x HLN.out ⟨by omega,by omega⟩ (HC.out.trans HC0.out.symm) (HTY.out.trans (if_pos hh.out)),rfl⟩,fun q hq=>by have:=HD.out.ao q hq;omega,fun q hq=>by have:=HD.out.go q hq;omega⟩)
  · obtain rfl:k=5:=by omega
    have K1:=HH1.out
    go_wp2_with fail
    refine bodyPost_ret (res_row_tmp (n:=32) rfl Tryz.underlying28 rfl (by kernel_rfl) _ _ w.heap.size rfl ?_) rfl ?_
    · rw[row_setRow K1];rfl
    · rw[row_setRow K1]
      have hn:decX (Ds.bl s)=none:=TrR.all (by rw[HC0.out];exact HTr.out) HLN.out
      have e:=HZZ.out
      unfold zlit at e
      rw[e]
      exact⟨(En.zero,[],[]),.slice none 0 0,.slice none 0 0,11,rfl,IS.nil _,GS.nil _,below_setRow HB.out (Nat.le_refl _) _,Or.inr ⟨hn,rfl,rfl⟩,(fun _ h=>by cases h),(fun _ h=>by cases h)⟩
theorem rdec_any (s:ByteArray) (w:World):Calls Tryz.prog 160 #[.string s] w fun r w'=>DecF w w' (Ds.bl s) r:=by
 by_cases h:s.size<32∨200<s.size
 · exact rdec_short s w h
 · exact rdec_long s w (by omega) (by omega)
end
end Go.Proofs.YtnojclchnhmggaaGreatDoor
