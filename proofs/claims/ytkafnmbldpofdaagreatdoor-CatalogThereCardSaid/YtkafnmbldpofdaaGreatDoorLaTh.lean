/- The walk of CatalogThere: entries that are added are found; removing them in the opposite order gives the catalog back. -/
import Derived.Test.YtkafnmbldpofdaaGreatDoorTh4
namespace Go.Proofs.YtkafnmbldpofdaaGreatDoor
open Go.RowKit
set_option maxHeartbeats 16000000
set_option maxRecDepth 8000
set_option linter.unusedSimpArgs false
def adR (Y:Nat->Fu) (AL GR:Nat->Value) (L:List Nat):List (Array Value):=L.map fun j=>(Y j).1.vals (AL j) (GR j)
structure ThJ (w wr:World) (M:List Rw) (vb v6 v7:Value) (Y:Nat->Fu) (AL GR:Nat->Value) (L:List Nat) (n k:Nat):Prop where
 g:GoodL 2 Y M L
 le:L.length<=k
 m:∀ j∈L,j<n
 r:RwS wr v6 (rowsL 2 Y M L)
 rq:∀ q,v6.ownBlock=some q->q<wr.heap.size∧v7.ownBlock≠some q
 b:RwS wr vb M
 bq:∀ q,vb.ownBlock=some q->q<wr.heap.size∧v7.ownBlock≠some q
 o:wr.ownsRow w.heap.size 32 33 v7 L.length (ec (adR Y AL GR L))
 bl:Below w.heap.size w wr
theorem ThJ.below {w wr w':World} {M:List Rw} {vb v6 v7:Value} {Y:Nat->Fu} {AL GR:Nat->Value} {L:List Nat} {n k k':Nat} (h:ThJ w wr M vb v6 v7 Y AL GR L n k) (hb:Below wr.heap.size wr w') (hk:k<=k'):ThJ w w' M vb v6 v7 Y AL GR L n k' :=
 ⟨h.g,Nat.le_trans h.le hk,h.m,h.r.below hb,fun q hq=>⟨Nat.lt_of_lt_of_le (h.rq q hq).1 hb.size,(h.rq q hq).2⟩,h.b.below hb,fun q hq=>⟨Nat.lt_of_lt_of_le (h.bq q hq).1 hb.size,(h.bq q hq).2⟩,own_keep h.o (fun x hx=>hb.block x (own_base h.o x hx).2),bt h.bl hb⟩
theorem ThJ.snoc {w w5 w8:World} {M:List Rw} {vb v6 v7 v6' v7':Value} {Y:Nat->Fu} {AL GR:Nat->Value} {L:List Nat} {n k:Nat} (h:ThJ w w5 M vb v6 v7 Y AL GR L n k) (hM:CInv 2 M) (hj:(addR (rowsL 2 Y M L) 2 (Y k)).2=0) (hk:k<n)
  (hr:RwS w8 v6' (apl (rowsL 2 Y M L) (addR (rowsL 2 Y M L) 2 (Y k)).1)) (hq:∀ q,v6'.ownBlock=some q->q<w8.heap.size∧v7'.ownBlock≠some q) (hg:w5.grownBy w8 v7.ownBlock)
  (hv:v7'.ownBlock=v7.ownBlock∨∃ m,w5.heap.size<=m∧v7'.ownBlock=some m) (ho:w8.ownsRow w.heap.size 32 33 v7' (L.length+1) (ec (adR Y AL GR L)++((Y k).1.vals (AL k) (GR k)).toList)) :
  ThJ w w8 M vb v6' v7' Y AL GR (L++[k]) n (k+1):=by
 obtain⟨ha,hgl⟩:=there_add h.g hM hj
 refine⟨hgl,by rw[List.length_append];exact Nat.succ_le_succ h.le,fun j hj=>?_,ha ▸ hr,hq,rws_app h.b hg (fun b hb e=>(h.bq b hb).2 e.symm),fun q hb=>?_,?_,h.bl.trans ?_⟩
 · rcases List.mem_append.1 hj with h1 | h1
   · exact h.m j h1
   · rw[List.mem_singleton.1 h1];exact hk
 · have h1:=h.bq q hb
   refine⟨Nat.lt_of_lt_of_le h1.1 hg.size,?_⟩
   rcases hv with e | ⟨m,hm,e⟩
   · rw[e];exact h1.2
   · rw[e];intro e2;cases e2;omega
 · have e:ec (adR Y AL GR (L++[k]))=ec (adR Y AL GR L)++((Y k).1.vals (AL k) (GR k)).toList:=by
    unfold adR;rw[List.map_append,ec_app];simp [ec]
   rw[List.length_append,e];exact ho
 · exact grown_keep hg (fun q hq=>(own_base h.o q hq).1) h.bl.size
structure ThK (w wr wk:World) (M:List Rw) (vb v6:Value) (Y:Nat->Fu) (L:List Nat) (m:Nat):Prop where
 r:RwS wk v6 (rowsL 2 Y M (L.take m))
 rq:∀ q,v6.ownBlock=some q->q<wk.heap.size
 b:RwS wk vb M
 bq:∀ q,vb.ownBlock=some q->q<wk.heap.size
 bl:Below wr.heap.size wr wk
theorem ThK.below {w wr wk w':World} {M:List Rw} {vb v6:Value} {Y:Nat->Fu} {L:List Nat} {m:Nat} (h:ThK w wr wk M vb v6 Y L m) (hb:Below wk.heap.size wk w'):ThK w wr w' M vb v6 Y L m :=
 ⟨h.r.below hb,fun q hq=>Nat.lt_of_lt_of_le (h.rq q hq) hb.size,h.b.below hb,fun q hq=>Nat.lt_of_lt_of_le (h.bq q hq) hb.size,bt h.bl hb⟩
attribute [local go_sem ↓] ldEnt ldEntM stEnt stEntRow bldEnt
attribute [local go_sem] Held_drew isHead_mk headOf_mk offOf_mk isPtr_mk cellsOfV_mk isAggV_mk row_new row_new2 row_new2' row_drew row_drewN vals_size allOne_nil allOne_cons one_int one_bool one_string one_pointer one_slice one_func vals_0 vals_1
theorem law_there_yes (a0:Option Addr) (n0 c0:Nat) (X:Nat->Fu) (a1:Option Addr) (n1 c1:Nat) (Y:Nat->Fu) (AL GR:Nat->Value) (w:World) (hm:MaxL w) (hT:Tab w) (h0:n0<=8) (h1:n1<=6) (hX:FL w a0 n0 X) (hY:FVs w a1 n1 Y AL GR)
  (hF1:∀ W,Below w.heap.size w W->Calls Tryz.prog 9 #[.slice a0 n0 c0,.int .i64 8] W fun r w'=>∃ b:Bool,r=.returned (.bool b)∧Below W.heap.size W w')
  (hF2:∀ W,Below w.heap.size w W->Calls Tryz.prog 9 #[.slice a1 n1 c1,.int .i64 6] W fun r w'=>∃ b:Bool,r=.returned (.bool b)∧Below W.heap.size W w') :
  Calls Tryz.prog 3 #[.slice a0 n0 c0,.slice a1 n1 c1] w fun r w'=>r=.returned (.bool true)∧Below w.heap.size w w':=by
 have HAW:=Lib.hid (fun W (b:Below w.heap.size w W)=>aw35 W (hm.below b) (hT.below b))
 have HF1:=Lib.hid hF1
 have HF2:=Lib.hid hF2
 have HMK:=Lib.hid (fun W (b:Below w.heap.size w W)=>r35_make 2 a0 n0 c0 X W (by omega) (hX.below b))
 have HM:=Lib.hid hm
 have HTT:=Lib.hid hT
 have hMI:=makN_inv 2 X n0
 have hml:=makN_len 2 X n0
 generalize makN 2 X n0=M at HMK hMI hml
 have HY:=Lib.hid hY
 clear hF1 hF2 hX hY hm hT
 go_enter Tryz.func3,Tryz.ntmps3
 go_wp2_with (first
  | (go_at_call 8;(with_reducible refine (HAW.out _ (Below.refl _ _)).mono ?_);rintro _ w1 ⟨rfl,hb⟩;have B:=Lib.hid hb;clear hb)
  | (go_at_call 9;(refine (HF1.out _ B.out).mono ?_);rintro _ w2 ⟨bb,rfl,hb⟩;clear HF1;have B:=Lib.hid (bt B.out hb);clear hb;cases bb)
  | (go_at_call 9;(refine (HF2.out _ B.out).mono ?_);rintro _ w3 ⟨bb,rfl,hb⟩;clear HF2;have B:=Lib.hid (bt B.out hb);clear hb;cases bb)
  | (go_at_call 10;(refine (HMK.out _ B.out).mono ?_);rintro _ w4 ⟨vb,rfl,hr,ho,hb⟩;obtain⟨vba,vbc,rfl,-⟩:=_root_.id hr;have B:=Lib.hid (bt B.out hb);have SR:=Lib.hid hr;have SO:=Lib.hid ho;clear hr ho hb))
 · go_ret
   exact⟨rfl,B.out⟩
 · go_ret
   exact⟨rfl,B.out⟩
 go_loopw [6,7,35] (fun v6 v7 i wr=>∃ (k:Nat) (L:List Nat),k<=n1∧i=.int .i64 k∧ThJ w wr M (.slice vba M.length vbc) v6 v7 Y AL GR L n1 k) (fun _ _ i _=>n1 - (intOf i).toNat)
 case atStart =>
  refine⟨0,[],Nat.zero_le _,rfl,⟨(fun i h=>by cases h),Nat.le_refl _,(fun j h=>by cases h),SR.out,(fun q hq=>⟨SO.out q hq,(fun e=>by cases e)⟩),SR.out,(fun q hq=>⟨SO.out q hq,(fun e=>by cases e)⟩),World.ownsRow_nil _ _ _ _,B.out⟩⟩
 case round =>
  obtain⟨k,L,hk,rfl,hJ⟩:=hrel
  obtain⟨v6a,v6c,rfl,-⟩:=_root_.id hJ.r
  obtain⟨v7a,v7c,rfl⟩:=owns_sl hJ.o
  have HJ:=Lib.hid hJ
  clear hJ
  by_cases hlt:k<n1
  · obtain⟨b,o,rfl,hb,hmid,hI,hG,hsz⟩:=(HY.out.below HJ.out.bl) k hlt
    have hone:=vals_one (Y k).1 (AL k) (GR k) (is_one hI) (gs_one hG)
    have hz33:(mid wr b (o+k*33)).size=33:=by rw[hmid];exact vals_size _ _ _
    have j1:(0:Int)<=(k:Int):=by omega
    have j2:(k:Int)<(n1:Int):=by omega
    go_upto_region 11 with fail
    have BA:=below_al' wr (.cells ((Y k).1.vals (AL k) (GR k)) 32)
    have J9:=HJ.out.below BA (Nat.le_refl k)
    have R9:=row_new wr ((Y k).1.vals (AL k) (GR k)) 32 (0,0)
    have hadd:=ca_yes_add (.slice v6a (rowsL 2 Y M L).length v6c) (rowsL 2 Y M L) 2 (Y k) (AL k) (GR k) ((wr.alloc (.cells ((Y k).1.vals (AL k) (GR k)) 32)).drew) (HM.out.below J9.bl.drew) (HTT.out.below J9.bl.drew) hsz ((hI.below BA).below (Below.refl _ _).drew) ((hG.below BA).below (Below.refl _ _).drew) (J9.r.below (Below.refl _ _).drew) (fun q hq=>(J9.rq q hq).1)
    have HADD:=Lib.hid hadd
    have hlen:=Lib.hid (rowsL_len 2 Y M L.length L rfl)
    clear hadd hmid hI hG BA
    generalize (wr.alloc (.cells ((Y k).1.vals (AL k) (GR k)) 32))=W9 at J9 R9 HADD ⊢
    have H9:=Lib.hid J9
    clear J9
    refine wp_region_held_drew (S:=fun w'=>row w' wr.heap.size=(Y k).1.vals (AL k) (GR k)) (by kernel_rfl) R9 (fun hHeld=>?_)
    (refine rgy (i:=0) (some 40) ?_;(try simp only[Act.put,pz]))
    (refine rg_y (i:=3) (some 43) (v:=.agg ((Y k).1.vals (AL k) (GR k))) rfl rfl (by kernel_rfl) (by kernel_rfl) (by kernel_rfl) (fun _ _ _ h=>h) (by kernel_rfl) (fun wS hSw=>?_) (by assumption) ?_;focus (exact (ldEnt _ wS _ _ _ _ _ _ rfl (by show (row wS (wr.heap.size)).size=33;rw[hSw];exact vals_size _ _ _)).trans (by show Result.ok (Next.value (.agg (row wS (wr.heap.size)))) wS=_;rw[hSw]));(try simp only[Act.put,pz]))
    refine rgb (i:=1) (by kernel_rfl) rfl (fun K hK=>?_)
    go_simp
    go_at_call 12
    refine (sh35 _ _ _ _).mono ?_
    rintro _ _ ⟨rfl,rfl⟩
    refine hK.out _ _ (row_below (below_al' W9.drew _) R9 (by rw[vals_size];decide)) (fun hHeld=>?_)
    (clear hK K;(try simp only[Act.put,pz]))
    (refine rgy (i:=2) (some 42) ?_;(try simp only[Act.put,pz]))
    refine rgb (i:=4) (by kernel_rfl) rfl (fun K hK=>?_)
    go_simp
    go_at_call 11
    refine HADD.out.mono ?_
    rintro _ w5 ⟨ov,rfl,hc,-,hb⟩
    have hb5:Below W9.heap.size W9 w5:=(Below.refl W9.heap.size W9).drew.trans hb
    have R5:=row_below hb5 R9 (by rw[vals_size];decide)
    have H5:=Lib.hid (H9.out.below hb5 (Nat.le_refl k))
    obtain⟨ova,ovc,rfl,-⟩:=_root_.id hc
    have C5:=Lib.hid hc
    refine hK.out _ _ R5 (fun hHeld=>?_)
    (clear hK K;(try simp only[Act.put,pz]))
    (refine rgy (i:=5) (some 39) ?_;(try simp only[Act.put,pz]))
    (refine rgy (i:=6) (some 45) ?_;(try simp only[Act.put,pz]))
    (refine rgy (i:=7) (some 46) ?_;(try simp only[Act.put,pz]))
    (refine rgy (i:=8) (some 10) ?_;(try simp only[Act.put,pz]))
    (refine rgy (i:=9) (some 11) ?_;(try simp only[Act.put,pz]))
    refine wpAnyH_done (by kernel_rfl) ?_ _
    clear hb hb5 hc R9 H9 HADD hHeld
    by_cases he:(addR (rowsL 2 Y M L) 2 (Y k)).2=0
    rotate_left
    · have t1:((addR (rowsL 2 Y M L) 2 (Y k)).2==0)=false:=beq_eq_false_iff_ne.2 he
      clear he
      go_wp2_with fail
      go_roundw
      case rel=>exact⟨k+1,L,by omega,by go_num,H5.out.below (Below.refl _ _) (by omega)⟩
      case measure=>simp [intOf];omega
    · have t1:((addR (rowsL 2 Y M L) 2 (Y k)).2==0)=true:=beq_iff_eq.2 he
      go_upto_region 13 with fail
      have hz6:6<=maxLen:=by unfold maxLen;omega
      have hL:=H5.out.le
      refine wp_region_held_drew (S:=fun w'=>row w' wr.heap.size=(Y k).1.vals (AL k) (GR k)) (by kernel_rfl) R5 (fun hHeld=>?_)
      (refine rgy (i:=0) (some 49) ?_;(try simp only[Act.put,pz]))
      (refine rgy (i:=1) (some 50) ?_;(try simp only[Act.put,pz]))
      (refine rgy (i:=3) (some 52) ?_;(try simp only[Act.put,pz]))
      (refine rg_y (i:=4) (some 53) (v:=.agg ((Y k).1.vals (AL k) (GR k))) rfl rfl (by kernel_rfl) (by kernel_rfl) (by kernel_rfl) (fun _ _ _ h=>h) (by kernel_rfl) (fun wS hSw=>?_) (by assumption) ?_;focus (exact (ldEnt _ wS _ _ _ _ _ _ rfl (by show (row wS (wr.heap.size)).size=33;rw[hSw];exact vals_size _ _ _)).trans (by show Result.ok (Next.value (.agg (row wS (wr.heap.size)))) wS=_;rw[hSw]));(try simp only[Act.put,pz]))
      have HN:=Lib.hid (show some wr.heap.size≠(Value.slice v7a L.length v7c).ownBlock from fun e=>by have:=own_base HJ.out.o _ e.symm;omega)
      have hl1:(rowsL 2 Y M L).length<=1000:=by have:=hlen.out;have:=H5.out.le;omega
      have hl2:(addR (rowsL 2 Y M L) 2 (Y k)).1.length<=1000:=by rw[(add_zero he).2.1];show 1<=1000;decide
      have bd:Below w5.heap.size w5 w5.drew:=(Below.refl _ _).drew
      have HOB:=Lib.hid (own_base H5.out.o)
      refine wpAnyH_ready (rs:=[2,5]) (by kernel_rfl) (by simp) ?_
      refine AllReadyH.cons (o:=_) rfl (fun K hK=>?_) (AllReadyH.cons (o:=_) rfl (fun K hK=>?_) AllReadyH.nil)
      · go_simp
        go_at_call 13
        refine (r35_apply _ _ _ _ _ (H5.out.r.below bd) (C5.out.below bd) hl1 hl2).mono ?_
        rintro _ w6 ⟨vr,rfl,hr6,hf6,hb6⟩
        have B6:Below w5.heap.size w5 w6:=bd.trans hb6
        have R6:=row_below B6 R5 (by rw[vals_size];decide)
        refine hK.out _ _ R6 (fun hHeld=>?_)
        (clear hK K;(try simp only[Act.put,pz]))
        refine rgb (i:=5) (by kernel_rfl) rfl (fun K hK=>?_)
        refine step_bldE w6 (x:=.tmp 53) (cs:=(Y k).1.vals (AL k) (GR k)) rfl rfl rfl (vals_size _ _ _) ?_
        have BA6:=below_al' w6 (.cells ((Y k).1.vals (AL k) (GR k)) 32)
        have R7:=row_below BA6 R6 (by rw[vals_size];decide)
        refine hK.out _ _ R7 (fun hHeld=>?_)
        (clear hK K;(try simp only[Act.put,pz]))
        refine rgb (i:=6) (by kernel_rfl) rfl (fun K hK=>?_)
        have B7:Below w5.heap.size w5 (w6.alloc (.cells ((Y k).1.vals (AL k) (GR k)) 32)):=B6.alloc B6.size _
        have ow7:=own_keep H5.out.o (fun x hx=>B7.block x (HOB.out x hx).2)
        refine step_appX _ rfl (.tmp 52) (.tmp 54) 22 32 _ _ 33 336 rfl Tryz.underlying22 en_i en_i0 en_i1 en_i2 (vals_size _ _ _) (by decide) w.heap.size (.slice v7a L.length v7c) (.slice (some ⟨w6.heap.size,0,none⟩) 1 1) L.length 1 (ec (adR Y AL GR L)) ((Y k).1.vals (AL k) (GR k)).toList (by simp [Act.eval]) ow7 (by simp [Act.eval]) (cs_one rfl (vals_size _ _ _)) (all1 hone) (by omega) (by omega) (Nat.le_trans H5.out.bl.size B7.size) ?_
        intro a8 c8 w8 hown8 hg8 hat8
        have z6:=hb6.size
        have z8:=hg8.size
        simp only[World.size_alloc] at z8 hat8
        have SN:=Lib.hid (H5.out.snoc (v6':=vr) (v7':=.slice a8 (L.length+1) c8) hMI he hlt (rws_app (hr6.below BA6) hg8 (fun b hb e=>by have h1:=(hf6 b hb).1;have h2:=HOB.out b e.symm;have h3:w5.heap.size<=b:=h1;omega)) (fun q hq=>⟨by have:=(hf6 q hq).2;omega,fun e=>by have h3:w5.heap.size<=q:=(hf6 q hq).1;have h4:=(hf6 q hq).2;rcases hat8 with h | h <;> rw[h] at e <;> first | (have:=HOB.out q e;omega) | (cases e;omega)⟩) (grown_tr (grown_of_below _ B7) hg8) (hat8.imp (fun h=>h) (fun h=>⟨_,(by have h9:w5.heap.size<=w6.heap.size:=z6;omega),h⟩)) hown8)
        refine hK.out _ _ (row_gr R7 (by rw[vals_size];decide) hg8 HN.out) (fun hHeld=>?_)
        (clear hK K;(try simp only[Act.put,pz]))
        (refine rgy (i:=7) (some 6) ?_;(try simp only[Act.put,pz]))
        (refine rgy (i:=8) (some 7) ?_;(try simp only[Act.put,pz]))
        refine wpAnyH_done (by kernel_rfl) ?_ _
        clear hr6 hf6 hb6 B6 R6 BA6 R7 B7 ow7 hown8 hg8 hat8 z6 z8 R5 H5 C5 hHeld bd HOB
        go_wp2_with fail
        go_roundw
        case rel=>exact⟨k+1,L++[k],by omega,by go_num,SN.out⟩
        case measure=>simp [intOf];omega
      · refine step_bldE w5.drew (x:=.tmp 53) (cs:=(Y k).1.vals (AL k) (GR k)) rfl rfl rfl (vals_size _ _ _) ?_
        have BB:Below w5.heap.size w5 (w5.drew.alloc (.cells ((Y k).1.vals (AL k) (GR k)) 32)):=bd.alloc bd.size _
        have RB:=row_below BB R5 (by rw[vals_size];decide)
        refine hK.out _ _ RB (fun hHeld=>?_)
        (clear hK K;(try simp only[Act.put,pz]))
        have CSB:=cs_one (X:=w5.drew) (t:=32) rfl (vals_size (Y k).1 (AL k) (GR k))
        have zB:(w5.drew.alloc (.cells ((Y k).1.vals (AL k) (GR k)) 32)).heap.size=w5.heap.size+1:=World.size_alloc w5.drew _
        generalize (w5.drew.alloc (.cells ((Y k).1.vals (AL k) (GR k)) 32))=wB at BB RB CSB zB ⊢
        refine rgb (i:=2) (by kernel_rfl) rfl (fun K hK=>?_)
        go_simp
        go_at_call 13
        refine (r35_apply _ _ _ _ _ (H5.out.r.below BB) (C5.out.below BB) hl1 hl2).mono ?_
        rintro _ w6 ⟨vr,rfl,hr6,hf6,hb6⟩
        have B6:Below w5.heap.size w5 w6:=bt BB hb6
        have RX:=row_below B6 R5 (by rw[vals_size];decide)
        refine hK.out _ _ RX (fun hHeld=>?_)
        (clear hK K;(try simp only[Act.put,pz]))
        refine rgb (i:=6) (by kernel_rfl) rfl (fun K hK=>?_)
        have ow7:=own_keep H5.out.o (fun x hx=>B6.block x (HOB.out x hx).2)
        refine step_appX _ rfl (.tmp 52) (.tmp 54) 22 32 _ _ 33 336 rfl Tryz.underlying22 en_i en_i0 en_i1 en_i2 (vals_size _ _ _) (by decide) w.heap.size (.slice v7a L.length v7c) (.slice (some ⟨w5.heap.size,0,none⟩) 1 1) L.length 1 (ec (adR Y AL GR L)) ((Y k).1.vals (AL k) (GR k)).toList (by simp [Act.eval]) ow7 (by simp [Act.eval]) (CSB.below hb6) (all1 hone) (by omega) (by omega) (Nat.le_trans H5.out.bl.size B6.size) ?_
        intro a8 c8 w8 hown8 hg8 hat8
        have z6:=hb6.size
        have z8:=hg8.size
        have SN:=Lib.hid (H5.out.snoc (v6':=vr) (v7':=.slice a8 (L.length+1) c8) hMI he hlt (rws_app hr6 hg8 (fun b hb e=>by have h1:=(hf6 b hb).1;have h2:=HOB.out b e.symm;omega)) (fun q hq=>⟨by have:=(hf6 q hq).2;omega,fun e=>by have h3:=(hf6 q hq).1;have h4:=(hf6 q hq).2;rcases hat8 with h | h <;> rw[h] at e <;> first | (have:=HOB.out q e;omega) | (cases e;omega)⟩) (grown_tr (grown_of_below _ B6) hg8) (hat8.imp (fun h=>h) (fun h=>⟨_,by omega,h⟩)) hown8)
        refine hK.out _ _ (row_gr RX (by rw[vals_size];decide) hg8 HN.out) (fun hHeld=>?_)
        (clear hK K;(try simp only[Act.put,pz]))
        (refine rgy (i:=7) (some 6) ?_;(try simp only[Act.put,pz]))
        (refine rgy (i:=8) (some 7) ?_;(try simp only[Act.put,pz]))
        clear hr6 hf6 hb6 B6 ow7 hown8 hg8 hat8 z6 z8 CSB zB
        refine wpAnyH_done (by kernel_rfl) ?_ _
        clear R5 H5 C5 hHeld bd HOB BB RB RX
        go_wp2_with fail
        go_roundw
        case rel=>exact⟨k+1,L++[k],by omega,by go_num,SN.out⟩
        case measure=>simp [intOf];omega
  · obtain rfl:k=n1:=by omega
    clear hlt hk
    rename World=>w6
    have hL6:L.length<=6:=Nat.le_trans HJ.out.le h1
    have HBI:=Lib.hid (fun j (hj:j<L.length)=>there_back HJ.out.g hMI j hj)
    have HLJ:=Lib.hid HJ.out.m
    have HRI:=Lib.hid (fun j (hj:j<=L.length)=>HJ.out.g.inv hMI j hj)
    have hlen:=Lib.hid (fun j (hj:j<=L.length)=>rowsL_len 2 Y M j (L.take j) (by rw[List.length_take];omega))
    go_wp2_with fail
    go_loopw [6,12] (fun v6 i wk=>∃ (m:Nat),m<=L.length∧i=.int .i64 ((m:Int) - 1)∧ThK w w6 wk M (.slice vba M.length vbc) v6 Y L m) (fun _ i _=>(intOf i+1).toNat)
    case atStart=>exact⟨L.length,Nat.le_refl _,by go_num,by rw[List.take_of_length_le (Nat.le_refl _)];exact HJ.out.r,fun q hq=>(HJ.out.rq q hq).1,HJ.out.b,fun q hq=>(HJ.out.bq q hq).1,Below.refl _ _⟩
    case round =>
     obtain⟨m,hm2,rfl,hK⟩:=hrel
     obtain⟨v6a,v6c,rfl,-⟩:=_root_.id hK.r
     have HK:=Lib.hid hK
     clear hK
     rcases Nat.eq_zero_or_pos m with h0 | h0
     · subst h0
       have e0:rowsL 2 Y M (L.take 0)=M:=by simp [rowsL]
       have HR0:=Lib.hid (e0 ▸ HK.out.r)
       rw[e0,show ((0:Nat):Int) - 1=-1 by omega]
       have HE:=Lib.hid e0
       clear e0
       go_wp2_with (go_at_call 18;(refine (r35_same _ _ M _ HR0.out HK.out.b).mono ?_);rintro _ w9 ⟨rfl,hb⟩;have HB9:=Lib.hid hb;clear hb)
       go_ret
       exact⟨rfl,(HJ.out.bl.trans ((bt HK.out.bl HB9.out).mono HJ.out.bl.size))⟩
     · obtain⟨i,rfl⟩:∃ i,m=i+1:=⟨m - 1,by omega⟩
       have hi:i<L.length:=hm2
       rw[show ((i+1:Nat):Int) - 1=(i:Int) by omega]
       obtain⟨g,cg,e7,hg1,hg2,hmid⟩:=own_mid (fun r hr=>by obtain⟨j,-,rfl⟩:=List.mem_map.1 hr;exact vals_size _ _ _) HJ.out.o i ((Y L[i]).1.vals (AL L[i]) (GR L[i])) (by unfold adR;rw[List.getElem?_map,List.getElem?_eq_getElem hi];rfl)
       cases e7
       have hmid:=mid_below HK.out.bl hmid (by rw[vals_size];decide)
       obtain⟨b,o,-,-,-,hI,hG,hsz⟩:=(HY.out.below HJ.out.bl) L[i] (HLJ.out _ (List.getElem_mem hi))
       have hone:=vals_one (Y L[i]).1 (AL L[i]) (GR L[i]) (is_one hI) (gs_one hG)
       have hz33:(mid wr g (i*33)).size=33:=by rw[hmid];exact vals_size _ _ _
       have j1:(0:Int)<=(i:Int):=by omega
       have j2:(i:Int)<(L.length:Int):=by omega
       have hkey:=inv_keys (HRI.out (i+1) hm2)
       have hl1:(rowsL 2 Y M (L.take (i+1))).length<=1000:=by have:=hlen.out (i+1) hm2;omega
       obtain⟨hok,hgt,hfn,hrm,hap⟩:=HBI.out i hi
       have HR1:=HK.out.r
       have HQ1:=HK.out.rq
       have HNX:=Lib.hid (fun (wx:World) v (h:RwS wx v (apl (rowsL 2 Y M (L.take (i+1))) [eraCh 2 (Y L[i])]))=>hap ▸ h)
       generalize hR1:rowsL 2 Y M (L.take (i+1))=R1 at hkey hl1 hgt hfn hrm HR1 HQ1 HNX ⊢
       go_upto_region 19 with fail
       generalize hx:Y L[i]=x at hmid hI hG hsz hone hok hgt hfn hrm HNX ⊢
       generalize AL L[i]=xa at hmid hI hG hone ⊢
       generalize GR L[i]=xg at hmid hI hG hone ⊢
       have R13:=row_new wr (x.1.vals xa xg) 32 (0,0)
       have BA:=below_al' wr (.cells (x.1.vals xa xg) 32)
       have zA:wr.heap.size<(wr.alloc (.cells (x.1.vals xa xg) 32)).heap.size:=by simp
       have HRR:=Lib.hid (HR1.below BA)
       have HRQ:=Lib.hid (fun q (hq:(Value.slice v6a R1.length v6c).ownBlock=some q)=>Nat.lt_trans (HQ1 q hq) zA)
       have bAll:=HJ.out.bl.trans ((bt HK.out.bl BA).mono HJ.out.bl.size)
       have HMX:=Lib.hid (HM.out.below bAll)
       have HTX:=Lib.hid (HTT.out.below bAll)
       have HBA:=Lib.hid BA
       generalize (wr.alloc (.cells (x.1.vals xa xg) 32))=wA at R13 zA HRR HRQ HMX HTX HBA ⊢
       generalize hBX:wr.heap.size=BX at R13 zA ⊢
       have HGT:=Lib.hid hgt
       have HFN0:=Lib.hid hfn
       have HRM:=Lib.hid hrm
       have C0:=cell_row R13 0 _ (vals_0 _ _ _)
       have C1:=cell_row R13 1 _ (vals_1 _ _ _)
       clear hgt hfn hrm BA bAll HR1 HQ1
       have KS:∀ {w':World},Below wA.heap.size wA w'->w'.cell? ⟨BX,0,none⟩=some (.int .i64 x.1.kind)∧w'.cell? ⟨BX,1,none⟩=some (.string x.1.name):=fun b=>⟨(b.cell (p:=⟨BX,0,none⟩) zA).trans C0,(b.cell (p:=⟨BX,1,none⟩) zA).trans C1⟩
       go_cut [14,15] (fun t14 t15 wx=>∃ q al gr,t14=.pointer (some ⟨q,0,none⟩)∧t15=.int .i64 0∧row wx q=x.1.vals al gr∧IS wx al x.2.1∧GS wx gr x.2.2∧Below wA.heap.size wA wx)
       case first =>
        refine wp_region_held_drew (S:=(fun w'=>w'.cell? ⟨BX,0,none⟩=some (.int .i64 x.1.kind)∧w'.cell? ⟨BX,1,none⟩=some (.string x.1.name))) (by kernel_rfl) ⟨C0,C1⟩ (fun hHeld=>?_)
        (refine rgy (i:=0) (some 69) ?_;(try simp only[Act.put,pz]))
        (refine rgy (i:=3) (some 72) ?_;(try simp only[Act.put,pz]))
        (refine rgy (i:=4) (some 73) ?_;(try simp only[Act.put,pz]))
        (refine rgy (i:=5) (some 74) ?_;(try simp only[Act.put,pz]))
        (refine rgy (i:=6) (some 75) ?_;(try simp only[Act.put,pz]))
        have bdA:Below wA.heap.size wA wA.drew:=(Below.refl _ _).drew
        have HRD:=Lib.hid (HRR.out.below bdA)
        refine wpAnyH_ready (rs:=[1,11]) (by kernel_rfl) (by simp) ?_
        refine AllReadyH.cons (o:=_) rfl (fun K hK=>?_) (AllReadyH.cons (o:=_) rfl (fun K hK=>?_) AllReadyH.nil)
        · go_simp
          go_at_call 12
          refine (sh35 _ _ _ _).mono ?_
          rintro _ _ ⟨rfl,rfl⟩
          have bS:=bdA.alloc bdA.size (.cells #[.slice v6a R1.length v6c,.int .i64 0,.int .i64 0,.int .i64 0] 69)
          have hS:=shelf_at (.slice v6a R1.length v6c) R1 wA.drew wA.heap.size rfl HRD.out HRQ.out
          have z1:wA.heap.size<(wA.drew.alloc (.cells #[.slice v6a R1.length v6c,.int .i64 0,.int .i64 0,.int .i64 0] 69)).heap.size:=by rw[World.size_alloc];exact Nat.lt_succ_self _
          generalize hW1:wA.drew.alloc (.cells #[.slice v6a R1.length v6c,.int .i64 0,.int .i64 0,.int .i64 0] 69)=W1 at bS hS z1 ⊢
          refine hK.out _ _ (KS bS) (fun hHeld=>?_)
          (clear hK K;(try simp only[Act.put,pz]))
          (refine rgy (i:=2) (some 71) ?_;(try simp only[Act.put,pz]))
          refine wpAnyH_ready (rs:=[7,11]) (by kernel_rfl) (by simp) ?_
          refine AllReadyH.cons (o:=_) rfl (fun K hK=>?_) (AllReadyH.cons (o:=_) rfl (fun K hK=>?_) AllReadyH.nil)
          · go_simp
            go_at_call 14
            refine (th_getG wA.heap.size _ R1 2 x.1.kind x.1.name x wA.drew W1 (HMX.out.below bdA) (HTX.out.below bdA) hS HGT.out).mono ?_
            rintro _ w9 ⟨al,gr,rfl,hI9,hG9,o1,o2,hb9,hg9⟩
            have hone9:=vals_one x.1 al gr (is_one hI9) (gs_one hG9)
            have b9:Below wA.heap.size wA w9:=bdA.trans hb9
            refine hK.out _ _ (KS b9) (fun hHeld=>?_)
            (clear hK K;(try simp only[Act.put,pz]))
            (refine rgy (i:=8) (some 68) ?_;(try simp only[Act.put,pz]))
            (refine rgy (i:=9) (some 77) ?_;(try simp only[Act.put,pz]))
            (refine rgy (i:=10) (some 78) ?_;(try simp only[Act.put,pz]))
            refine wpAnyH_ready (rs:=[11]) (by kernel_rfl) (by simp) ?_
            refine AllReadyH.cons (o:=_) rfl (fun K hK=>?_) AllReadyH.nil
            refine step_alE w9 (some 14) rfl rfl rfl ?_
            refine hK.out _ _ (KS (b9.alloc b9.size _)) (fun hHeld=>?_)
            (clear hK K;(try simp only[Act.put,pz]))
            refine wpAnyH_ready (rs:=[12]) (by kernel_rfl) (by simp) ?_
            refine AllReadyH.cons (o:=_) rfl (fun K hK=>?_) AllReadyH.nil
            refine step_stE (w9.alloc (.cells (zlit 0 ⟨#[]⟩) 32)) (x:=(.tmp 14)) (y:=(.tmp 77)) (q:=w9.heap.size) (cs:=x.1.vals al gr) rfl rfl rfl rfl rfl (Held.new w9 (zlit 0 ⟨#[]⟩) 32 33 rfl (by decide)) (vals_size _ _ _) hone9 ?_
            have LF:=leafQ (wD:=wA) (q:=w9.heap.size) (x:=x) (b9.alloc b9.size _) b9.size (Held.new w9 (zlit 0 ⟨#[]⟩) 32 33 rfl (by decide)) (hI9.below (below_al' w9 _)) (hG9.below (below_al' w9 _)) (fun h0 b hb=>by have:=is_own_l hI9 h0 b hb;omega) (fun h0 b hb=>by have:=gs_own_l hG9 h0 b hb;omega)
            refine hK.out _ _ (KS LF.2.2.2) (fun hHeld=>?_)
            (clear hK K;(try simp only[Act.put,pz]))
            (refine rgy (i:=13) (some 15) ?_;(try simp only[Act.put,pz]))
            refine wpAnyH_done (by kernel_rfl) ?_ _
            obtain⟨l1,l2,l3,l4⟩:=LF
            have L1:=Lib.hid l1
            have L2:=Lib.hid l2
            have L3:=Lib.hid l3
            have L4:=Lib.hid l4
            clear l1 l2 l3 l4 hHeld
            go_wp2_with fail
            go_meet
            exact⟨_,_,_,rfl,rfl,L1.out,L2.out,L3.out,L4.out⟩
          · refine step_alE W1 (some 14) rfl rfl rfl ?_
            have bW:Below wA.heap.size wA (W1.alloc (.cells (zlit 0 ⟨#[]⟩) 32)):=bS.alloc bS.size _
            refine hK.out _ _ (KS bW) (fun hHeld=>?_)
            (clear hK K;(try simp only[Act.put,pz]))
            have H2:=Held.new W1 (zlit 0 ⟨#[]⟩) 32 33 rfl (by decide)
            have hS2:=hS.below (below_al' W1 (.cells (zlit 0 ⟨#[]⟩) 32))
            have z2:W1.heap.size<(W1.alloc (.cells (zlit 0 ⟨#[]⟩) 32)).heap.size:=by rw[World.size_alloc];exact Nat.lt_succ_self _
            generalize hW2:W1.alloc (.cells (zlit 0 ⟨#[]⟩) 32)=W2 at H2 hS2 z2 ⊢
            refine wpAnyH_ready (rs:=[7]) (by kernel_rfl) (by simp) ?_
            refine AllReadyH.cons (o:=_) rfl (fun K hK=>?_) AllReadyH.nil
            go_simp
            go_at_call 14
            refine (th_getG wA.heap.size _ R1 2 x.1.kind x.1.name x wA.drew W2 (HMX.out.below bdA) (HTX.out.below bdA) hS2 HGT.out).mono ?_
            rintro _ w9 ⟨al,gr,rfl,hI9,hG9,o1,o2,hb9,hg9⟩
            have hone9:=vals_one x.1 al gr (is_one hI9) (gs_one hG9)
            have b9:Below wA.heap.size wA w9:=bdA.trans hb9
            have H9:=held_gr H2 hg9 (by omega)
            refine hK.out _ _ (KS b9) (fun hHeld=>?_)
            (clear hK K;(try simp only[Act.put,pz]))
            (refine rgy (i:=8) (some 68) ?_;(try simp only[Act.put,pz]))
            (refine rgy (i:=9) (some 77) ?_;(try simp only[Act.put,pz]))
            (refine rgy (i:=10) (some 78) ?_;(try simp only[Act.put,pz]))
            refine wpAnyH_ready (rs:=[12]) (by kernel_rfl) (by simp) ?_
            refine AllReadyH.cons (o:=_) rfl (fun K hK=>?_) AllReadyH.nil
            refine step_stE w9 (x:=(.tmp 14)) (y:=(.tmp 77)) (q:=W1.heap.size) (cs:=x.1.vals al gr) rfl rfl rfl rfl rfl H9 (vals_size _ _ _) hone9 ?_
            have LF:=leafQ (wD:=wA) (q:=W1.heap.size) (x:=x) b9 (by omega) H9 hI9 hG9 (fun _ b hb=>by have:=o1 b hb;omega) (fun _ b hb=>by have:=o2 b hb;omega)
            refine hK.out _ _ (KS LF.2.2.2) (fun hHeld=>?_)
            (clear hK K;(try simp only[Act.put,pz]))
            (refine rgy (i:=13) (some 15) ?_;(try simp only[Act.put,pz]))
            refine wpAnyH_done (by kernel_rfl) ?_ _
            obtain⟨l1,l2,l3,l4⟩:=LF
            have L1:=Lib.hid l1
            have L2:=Lib.hid l2
            have L3:=Lib.hid l3
            have L4:=Lib.hid l4
            clear l1 l2 l3 l4 hHeld
            go_wp2_with fail
            go_meet
            exact⟨_,_,_,rfl,rfl,L1.out,L2.out,L3.out,L4.out⟩
        · refine step_alE wA.drew (some 14) rfl rfl rfl ?_
          have bS:=bdA.alloc bdA.size (.cells (zlit 0 ⟨#[]⟩) 32)
          have H1:=Held.new wA.drew (zlit 0 ⟨#[]⟩) 32 33 rfl (by decide)
          have z1:wA.heap.size<(wA.drew.alloc (.cells (zlit 0 ⟨#[]⟩) 32)).heap.size:=by rw[World.size_alloc];exact Nat.lt_succ_self _
          rw[show wA.drew.heap.size=wA.heap.size from rfl] at H1
          generalize hW1:wA.drew.alloc (.cells (zlit 0 ⟨#[]⟩) 32)=W1 at bS H1 z1 ⊢
          refine hK.out _ _ (KS bS) (fun hHeld=>?_)
          (clear hK K;(try simp only[Act.put,pz]))
          refine wpAnyH_ready (rs:=[1]) (by kernel_rfl) (by simp) ?_
          refine AllReadyH.cons (o:=_) rfl (fun K hK=>?_) AllReadyH.nil
          go_simp
          go_at_call 12
          refine (sh35 _ _ _ _).mono ?_
          rintro _ _ ⟨rfl,rfl⟩
          have hS:=shelf_at (.slice v6a R1.length v6c) R1 W1 W1.heap.size rfl (HRR.out.below bS) (fun b hb=>by have:=HRQ.out b hb;omega)
          have bT:=below_al' W1 (.cells #[.slice v6a R1.length v6c,.int .i64 0,.int .i64 0,.int .i64 0] 69)
          have z2:W1.heap.size<(W1.alloc (.cells #[.slice v6a R1.length v6c,.int .i64 0,.int .i64 0,.int .i64 0] 69)).heap.size:=by rw[World.size_alloc];exact Nat.lt_succ_self _
          generalize hW2:W1.alloc (.cells #[.slice v6a R1.length v6c,.int .i64 0,.int .i64 0,.int .i64 0] 69)=W2 at hS bT z2 ⊢
          refine hK.out _ _ (KS (bt bS bT)) (fun hHeld=>?_)
          (clear hK K;(try simp only[Act.put,pz]))
          (refine rgy (i:=2) (some 71) ?_;(try simp only[Act.put,pz]))
          refine wpAnyH_ready (rs:=[7]) (by kernel_rfl) (by simp) ?_
          refine AllReadyH.cons (o:=_) rfl (fun K hK=>?_) AllReadyH.nil
          go_simp
          go_at_call 14
          refine (th_getG W1.heap.size _ R1 2 x.1.kind x.1.name x W1 W2 (HMX.out.below bS) (HTX.out.below bS) hS HGT.out).mono ?_
          rintro _ w9 ⟨al,gr,rfl,hI9,hG9,o1,o2,hb9,hg9⟩
          have hone9:=vals_one x.1 al gr (is_one hI9) (gs_one hG9)
          have b9:Below wA.heap.size wA w9:=bt bS hb9
          have H9:=H1.below hb9
          refine hK.out _ _ (KS b9) (fun hHeld=>?_)
          (clear hK K;(try simp only[Act.put,pz]))
          (refine rgy (i:=8) (some 68) ?_;(try simp only[Act.put,pz]))
          (refine rgy (i:=9) (some 77) ?_;(try simp only[Act.put,pz]))
          (refine rgy (i:=10) (some 78) ?_;(try simp only[Act.put,pz]))
          refine wpAnyH_ready (rs:=[12]) (by kernel_rfl) (by simp) ?_
          refine AllReadyH.cons (o:=_) rfl (fun K hK=>?_) AllReadyH.nil
          refine step_stE w9 (x:=(.tmp 14)) (y:=(.tmp 77)) (q:=wA.heap.size) (cs:=x.1.vals al gr) rfl rfl rfl rfl rfl H9 (vals_size _ _ _) hone9 ?_
          have LF:=leafQ (wD:=wA) (q:=wA.heap.size) (x:=x) b9 (Nat.le_refl _) H9 hI9 hG9 (fun _ b hb=>by have:=o1 b hb;omega) (fun _ b hb=>by have:=o2 b hb;omega)
          refine hK.out _ _ (KS LF.2.2.2) (fun hHeld=>?_)
          (clear hK K;(try simp only[Act.put,pz]))
          (refine rgy (i:=13) (some 15) ?_;(try simp only[Act.put,pz]))
          refine wpAnyH_done (by kernel_rfl) ?_ _
          obtain⟨l1,l2,l3,l4⟩:=LF
          have L1:=Lib.hid l1
          have L2:=Lib.hid l2
          have L3:=Lib.hid l3
          have L4:=Lib.hid l4
          clear l1 l2 l3 l4 hHeld
          go_wp2_with fail
          go_meet
          exact⟨_,_,_,rfl,rfl,L1.out,L2.out,L3.out,L4.out⟩
       case rest =>
        obtain⟨q,al,gr,rfl,rfl,hq,hIq,hGq,hBx⟩:=hcut
        have hone2:=vals_one x.1 al gr (is_one hIq) (gs_one hGq)
        have R13:=row_below hBx R13 (by rw[vals_size];decide)
        have IA:=Lib.hid (((hI.below HK.out.bl).below HBA.out).below hBx)
        have GA:=Lib.hid (((hG.below HK.out.bl).below HBA.out).below hBx)
        have IQ:=Lib.hid hIq
        have GQ:=Lib.hid hGq
        have C0:=cell_row R13 0 _ (vals_0 _ _ _)
        have C1:=cell_row R13 1 _ (vals_1 _ _ _)
        have HBX:=Lib.hid hBx
        clear hIq hGq hBx
        go_upto_region 22 with (go_at_call 15;(refine (th_same x _ _ _ _ _ IA.out GA.out IQ.out GQ.out).mono ?_);rintro _ wS ⟨rfl,hb⟩;have HBS:=Lib.hid hb;clear hb)
        have bS:=bt HBX.out HBS.out
        have R13:=row_below HBS.out R13 (by rw[vals_size];decide)
        have C0:=cell_row R13 0 _ (vals_0 _ _ _)
        have C1:=cell_row R13 1 _ (vals_1 _ _ _)
        have HRR:=Lib.hid (HRR.out.below bS)
        have HRQ:=Lib.hid (fun q (hq:(Value.slice v6a R1.length v6c).ownBlock=some q)=>Nat.lt_of_lt_of_le (HRQ.out q hq) bS.size)
        have HMX:=Lib.hid (HMX.out.below bS)
        have HTX:=Lib.hid (HTX.out.below bS)
        have IA:=Lib.hid (IA.out.below HBS.out)
        have GA:=Lib.hid (GA.out.below HBS.out)
        have zA:BX<wS.heap.size:=Nat.lt_of_lt_of_le zA bS.size
        have HBA:=Lib.hid (bt HBA.out bS)
        clear bS hq
        obtain⟨fz,hfz⟩:∃ fz,findR R1 2 x.1.name=fz:=⟨_,rfl⟩
        obtain⟨z,code⟩:=fz
        have HFN:=Lib.hid hfz
        have HFK:=Lib.hid (fun hk=>hfz.symm.trans (HFN0.out hk))
        clear hfz
        have KS:∀ {w':World},Below wS.heap.size wS w'->w'.cell? ⟨BX,1,none⟩=some (.string x.1.name):=fun b=>(b.cell (p:=⟨BX,1,none⟩) zA).trans C1
        go_cut [16,17] (fun t16 t17 wx=>∃ q al gr,t16=.pointer (some ⟨q,0,none⟩)∧t17=.int .i64 code∧row wx q=z.1.vals al gr∧IS wx al z.2.1∧GS wx gr z.2.2∧Below wS.heap.size wS wx)
        case first =>
         refine wp_region_held_drew (S:=(fun w'=>w'.cell? ⟨BX,1,none⟩=some (.string x.1.name))) (by kernel_rfl) C1 (fun hHeld=>?_)
         (refine rgy (i:=0) (some 88) ?_;(try simp only[Act.put,pz]))
         (refine rgy (i:=3) (some 91) ?_;(try simp only[Act.put,pz]))
         (refine rgy (i:=4) (some 92) ?_;(try simp only[Act.put,pz]))
         have bdA:Below wS.heap.size wS wS.drew:=(Below.refl _ _).drew
         have HRD:=Lib.hid (HRR.out.below bdA)
         refine wpAnyH_ready (rs:=[1,9]) (by kernel_rfl) (by simp) ?_
         refine AllReadyH.cons (o:=_) rfl (fun K hK=>?_) (AllReadyH.cons (o:=_) rfl (fun K hK=>?_) AllReadyH.nil)
         · go_simp
           go_at_call 12
           refine (sh35 _ _ _ _).mono ?_
           rintro _ _ ⟨rfl,rfl⟩
           have bS:=bdA.alloc bdA.size (.cells #[.slice v6a R1.length v6c,.int .i64 0,.int .i64 0,.int .i64 0] 69)
           have hS:=shelf_at (.slice v6a R1.length v6c) R1 wS.drew wS.heap.size rfl HRD.out HRQ.out
           have z1:wS.heap.size<(wS.drew.alloc (.cells #[.slice v6a R1.length v6c,.int .i64 0,.int .i64 0,.int .i64 0] 69)).heap.size:=by rw[World.size_alloc];exact Nat.lt_succ_self _
           generalize hW1:wS.drew.alloc (.cells #[.slice v6a R1.length v6c,.int .i64 0,.int .i64 0,.int .i64 0] 69)=W1 at bS hS z1 ⊢
           refine hK.out _ _ (KS bS) (fun hHeld=>?_)
           (clear hK K;(try simp only[Act.put,pz]))
           (refine rgy (i:=2) (some 90) ?_;(try simp only[Act.put,pz]))
           refine wpAnyH_ready (rs:=[5,9]) (by kernel_rfl) (by simp) ?_
           refine AllReadyH.cons (o:=_) rfl (fun K hK=>?_) (AllReadyH.cons (o:=_) rfl (fun K hK=>?_) AllReadyH.nil)
           · go_simp
             go_at_call 16
             refine (th_findG wS.heap.size _ R1 2 x.1.name z code wS.drew W1 (HMX.out.below bdA) (HTX.out.below bdA) hS HFN.out).mono ?_
             rintro _ w9 ⟨al,gr,rfl,hI9,hG9,o1,o2,hb9,hg9⟩
             have hone9:=vals_one z.1 al gr (is_one hI9) (gs_one hG9)
             have b9:Below wS.heap.size wS w9:=bdA.trans hb9
             refine hK.out _ _ (KS b9) (fun hHeld=>?_)
             (clear hK K;(try simp only[Act.put,pz]))
             (refine rgy (i:=6) (some 87) ?_;(try simp only[Act.put,pz]))
             (refine rgy (i:=7) (some 94) ?_;(try simp only[Act.put,pz]))
             (refine rgy (i:=8) (some 95) ?_;(try simp only[Act.put,pz]))
             refine wpAnyH_ready (rs:=[9]) (by kernel_rfl) (by simp) ?_
             refine AllReadyH.cons (o:=_) rfl (fun K hK=>?_) AllReadyH.nil
             refine step_alE w9 (some 16) rfl rfl rfl ?_
             refine hK.out _ _ (KS (b9.alloc b9.size _)) (fun hHeld=>?_)
             (clear hK K;(try simp only[Act.put,pz]))
             refine wpAnyH_ready (rs:=[10]) (by kernel_rfl) (by simp) ?_
             refine AllReadyH.cons (o:=_) rfl (fun K hK=>?_) AllReadyH.nil
             refine step_stE (w9.alloc (.cells (zlit 0 ⟨#[]⟩) 32)) (x:=(.tmp 16)) (y:=(.tmp 94)) (q:=w9.heap.size) (cs:=z.1.vals al gr) rfl rfl rfl rfl rfl (Held.new w9 (zlit 0 ⟨#[]⟩) 32 33 rfl (by decide)) (vals_size _ _ _) hone9 ?_
             have LF:=leafQ (wD:=wS) (q:=w9.heap.size) (x:=z) (b9.alloc b9.size _) b9.size (Held.new w9 (zlit 0 ⟨#[]⟩) 32 33 rfl (by decide)) (hI9.below (below_al' w9 _)) (hG9.below (below_al' w9 _)) (fun h0 b hb=>by have:=is_own_l hI9 h0 b hb;omega) (fun h0 b hb=>by have:=gs_own_l hG9 h0 b hb;omega)
             refine hK.out _ _ (KS LF.2.2.2) (fun hHeld=>?_)
             (clear hK K;(try simp only[Act.put,pz]))
             (refine rgy (i:=11) (some 17) ?_;(try simp only[Act.put,pz]))
             refine wpAnyH_done (by kernel_rfl) ?_ _
             obtain⟨l1,l2,l3,l4⟩:=LF
             have L1:=Lib.hid l1
             have L2:=Lib.hid l2
             have L3:=Lib.hid l3
             have L4:=Lib.hid l4
             clear l1 l2 l3 l4 hHeld
             go_wp2_with fail
             go_meet
             exact⟨_,_,_,rfl,rfl,L1.out,L2.out,L3.out,L4.out⟩
           · refine step_alE W1 (some 16) rfl rfl rfl ?_
             have bW:Below wS.heap.size wS (W1.alloc (.cells (zlit 0 ⟨#[]⟩) 32)):=bS.alloc bS.size _
             refine hK.out _ _ (KS bW) (fun hHeld=>?_)
             (clear hK K;(try simp only[Act.put,pz]))
             have H2:=Held.new W1 (zlit 0 ⟨#[]⟩) 32 33 rfl (by decide)
             have hS2:=hS.below (below_al' W1 (.cells (zlit 0 ⟨#[]⟩) 32))
             have z2:W1.heap.size<(W1.alloc (.cells (zlit 0 ⟨#[]⟩) 32)).heap.size:=by rw[World.size_alloc];exact Nat.lt_succ_self _
             generalize hW2:W1.alloc (.cells (zlit 0 ⟨#[]⟩) 32)=W2 at H2 hS2 z2 ⊢
             refine wpAnyH_ready (rs:=[5]) (by kernel_rfl) (by simp) ?_
             refine AllReadyH.cons (o:=_) rfl (fun K hK=>?_) AllReadyH.nil
             go_simp
             go_at_call 16
             refine (th_findG wS.heap.size _ R1 2 x.1.name z code wS.drew W2 (HMX.out.below bdA) (HTX.out.below bdA) hS2 HFN.out).mono ?_
             rintro _ w9 ⟨al,gr,rfl,hI9,hG9,o1,o2,hb9,hg9⟩
             have hone9:=vals_one z.1 al gr (is_one hI9) (gs_one hG9)
             have b9:Below wS.heap.size wS w9:=bdA.trans hb9
             have H9:=held_gr H2 hg9 (by omega)
             refine hK.out _ _ (KS b9) (fun hHeld=>?_)
             (clear hK K;(try simp only[Act.put,pz]))
             (refine rgy (i:=6) (some 87) ?_;(try simp only[Act.put,pz]))
             (refine rgy (i:=7) (some 94) ?_;(try simp only[Act.put,pz]))
             (refine rgy (i:=8) (some 95) ?_;(try simp only[Act.put,pz]))
             refine wpAnyH_ready (rs:=[10]) (by kernel_rfl) (by simp) ?_
             refine AllReadyH.cons (o:=_) rfl (fun K hK=>?_) AllReadyH.nil
             refine step_stE w9 (x:=(.tmp 16)) (y:=(.tmp 94)) (q:=W1.heap.size) (cs:=z.1.vals al gr) rfl rfl rfl rfl rfl H9 (vals_size _ _ _) hone9 ?_
             have LF:=leafQ (wD:=wS) (q:=W1.heap.size) (x:=z) b9 (by omega) H9 hI9 hG9 (fun _ b hb=>by have:=o1 b hb;omega) (fun _ b hb=>by have:=o2 b hb;omega)
             refine hK.out _ _ (KS LF.2.2.2) (fun hHeld=>?_)
             (clear hK K;(try simp only[Act.put,pz]))
             (refine rgy (i:=11) (some 17) ?_;(try simp only[Act.put,pz]))
             refine wpAnyH_done (by kernel_rfl) ?_ _
             obtain⟨l1,l2,l3,l4⟩:=LF
             have L1:=Lib.hid l1
             have L2:=Lib.hid l2
             have L3:=Lib.hid l3
             have L4:=Lib.hid l4
             clear l1 l2 l3 l4 hHeld
             go_wp2_with fail
             go_meet
             exact⟨_,_,_,rfl,rfl,L1.out,L2.out,L3.out,L4.out⟩
         · refine step_alE wS.drew (some 16) rfl rfl rfl ?_
           have bS:=bdA.alloc bdA.size (.cells (zlit 0 ⟨#[]⟩) 32)
           have H1:=Held.new wS.drew (zlit 0 ⟨#[]⟩) 32 33 rfl (by decide)
           have z1:wS.heap.size<(wS.drew.alloc (.cells (zlit 0 ⟨#[]⟩) 32)).heap.size:=by rw[World.size_alloc];exact Nat.lt_succ_self _
           rw[show wS.drew.heap.size=wS.heap.size from rfl] at H1
           generalize hW1:wS.drew.alloc (.cells (zlit 0 ⟨#[]⟩) 32)=W1 at bS H1 z1 ⊢
           refine hK.out _ _ (KS bS) (fun hHeld=>?_)
           (clear hK K;(try simp only[Act.put,pz]))
           refine wpAnyH_ready (rs:=[1]) (by kernel_rfl) (by simp) ?_
           refine AllReadyH.cons (o:=_) rfl (fun K hK=>?_) AllReadyH.nil
           go_simp
           go_at_call 12
           refine (sh35 _ _ _ _).mono ?_
           rintro _ _ ⟨rfl,rfl⟩
           have hS:=shelf_at (.slice v6a R1.length v6c) R1 W1 W1.heap.size rfl (HRR.out.below bS) (fun b hb=>by have:=HRQ.out b hb;omega)
           have bT:=below_al' W1 (.cells #[.slice v6a R1.length v6c,.int .i64 0,.int .i64 0,.int .i64 0] 69)
           have z2:W1.heap.size<(W1.alloc (.cells #[.slice v6a R1.length v6c,.int .i64 0,.int .i64 0,.int .i64 0] 69)).heap.size:=by rw[World.size_alloc];exact Nat.lt_succ_self _
           generalize hW2:W1.alloc (.cells #[.slice v6a R1.length v6c,.int .i64 0,.int .i64 0,.int .i64 0] 69)=W2 at hS bT z2 ⊢
           refine hK.out _ _ (KS (bt bS bT)) (fun hHeld=>?_)
           (clear hK K;(try simp only[Act.put,pz]))
           (refine rgy (i:=2) (some 90) ?_;(try simp only[Act.put,pz]))
           refine wpAnyH_ready (rs:=[5]) (by kernel_rfl) (by simp) ?_
           refine AllReadyH.cons (o:=_) rfl (fun K hK=>?_) AllReadyH.nil
           go_simp
           go_at_call 16
           refine (th_findG W1.heap.size _ R1 2 x.1.name z code W1 W2 (HMX.out.below bS) (HTX.out.below bS) hS HFN.out).mono ?_
           rintro _ w9 ⟨al,gr,rfl,hI9,hG9,o1,o2,hb9,hg9⟩
           have hone9:=vals_one z.1 al gr (is_one hI9) (gs_one hG9)
           have b9:Below wS.heap.size wS w9:=bt bS hb9
           have H9:=H1.below hb9
           refine hK.out _ _ (KS b9) (fun hHeld=>?_)
           (clear hK K;(try simp only[Act.put,pz]))
           (refine rgy (i:=6) (some 87) ?_;(try simp only[Act.put,pz]))
           (refine rgy (i:=7) (some 94) ?_;(try simp only[Act.put,pz]))
           (refine rgy (i:=8) (some 95) ?_;(try simp only[Act.put,pz]))
           refine wpAnyH_ready (rs:=[10]) (by kernel_rfl) (by simp) ?_
           refine AllReadyH.cons (o:=_) rfl (fun K hK=>?_) AllReadyH.nil
           refine step_stE w9 (x:=(.tmp 16)) (y:=(.tmp 94)) (q:=wS.heap.size) (cs:=z.1.vals al gr) rfl rfl rfl rfl rfl H9 (vals_size _ _ _) hone9 ?_
           have LF:=leafQ (wD:=wS) (q:=wS.heap.size) (x:=z) b9 (Nat.le_refl _) H9 hI9 hG9 (fun _ b hb=>by have:=o1 b hb;omega) (fun _ b hb=>by have:=o2 b hb;omega)
           refine hK.out _ _ (KS LF.2.2.2) (fun hHeld=>?_)
           (clear hK K;(try simp only[Act.put,pz]))
           (refine rgy (i:=11) (some 17) ?_;(try simp only[Act.put,pz]))
           refine wpAnyH_done (by kernel_rfl) ?_ _
           obtain⟨l1,l2,l3,l4⟩:=LF
           have L1:=Lib.hid l1
           have L2:=Lib.hid l2
           have L3:=Lib.hid l3
           have L4:=Lib.hid l4
           clear l1 l2 l3 l4 hHeld
           go_wp2_with fail
           go_meet
           exact⟨_,_,_,rfl,rfl,L1.out,L2.out,L3.out,L4.out⟩
        case rest =>
         obtain⟨q2,al2,gr2,rfl,rfl,hq2,hI2,hG2,hB2⟩:=hcut
         have R13:=row_below hB2 R13 (by rw[vals_size];decide)
         have C0:=cell_row R13 0 _ (vals_0 _ _ _)
         have C1:=cell_row R13 1 _ (vals_1 _ _ _)
         have hone3:=vals_one z.1 al2 gr2 (is_one hI2) (gs_one hG2)
         have HB2:=Lib.hid hB2
         have IA:=Lib.hid (IA.out.below hB2)
         have GA:=Lib.hid (GA.out.below hB2)
         have I2:=Lib.hid hI2
         have G2:=Lib.hid hG2
         clear hI2 hG2 hB2
         by_cases hk:x.1.kind<=2
         · have hzx:=HFK.out hk
           obtain⟨rfl,rfl⟩:=Prod.mk.inj hzx
           have tk:decide (z.1.kind<=2)=true:=decide_eq_true hk
           clear hzx
           go_upto_region 25 with (go_at_call 15;(refine (th_same z _ _ _ _ _ IA.out GA.out I2.out G2.out).mono ?_);rintro _ wE ⟨rfl,hb⟩;have HBS:=Lib.hid (bt HB2.out hb);have R13:=row_below hb R13 (by rw[vals_size];decide);clear hb)
           clear C0 C1
           have C0:=cell_row R13 0 _ (vals_0 _ _ _)
           have C1:=cell_row R13 1 _ (vals_1 _ _ _)
           have HRR:=Lib.hid (HRR.out.below HBS.out)
           have HRQ:=Lib.hid (fun q (hq:(Value.slice v6a R1.length v6c).ownBlock=some q)=>Nat.lt_of_lt_of_le (HRQ.out q hq) HBS.out.size)
           have HMX:=Lib.hid (HMX.out.below HBS.out)
           have HTX:=Lib.hid (HTX.out.below HBS.out)
           have zA:BX<wE.heap.size:=Nat.lt_of_lt_of_le zA HBS.out.size
           have HBA:=Lib.hid (bt HBA.out HBS.out)
           have KS:∀ {w':World},Below wE.heap.size wE w'->w'.cell? ⟨BX,0,none⟩=some (.int .i64 z.1.kind)∧w'.cell? ⟨BX,1,none⟩=some (.string z.1.name):=fun b=>⟨(b.cell (p:=⟨BX,0,none⟩) zA).trans C0,(b.cell (p:=⟨BX,1,none⟩) zA).trans C1⟩
           refine wp_region_held_drew (S:=(fun w'=>w'.cell? ⟨BX,0,none⟩=some (.int .i64 z.1.kind)∧w'.cell? ⟨BX,1,none⟩=some (.string z.1.name))) (by kernel_rfl) ⟨C0,C1⟩ (fun hHeld=>?_)
           (refine rgy (i:=0) (some 110) ?_;(try simp only[Act.put,pz]))
           (refine rgy (i:=3) (some 113) ?_;(try simp only[Act.put,pz]))
           (refine rgy (i:=4) (some 114) ?_;(try simp only[Act.put,pz]))
           (refine rgy (i:=5) (some 115) ?_;(try simp only[Act.put,pz]))
           (refine rgy (i:=6) (some 116) ?_;(try simp only[Act.put,pz]))
           refine rgb (i:=1) (by kernel_rfl) rfl (fun K hK=>?_)
           have bdA:Below wE.heap.size wE wE.drew:=(Below.refl _ _).drew
           go_simp
           go_at_call 12
           refine (sh35 _ _ _ _).mono ?_
           rintro _ _ ⟨rfl,rfl⟩
           refine hK.out _ _ (KS (bdA.alloc bdA.size _)) (fun hHeld=>?_)
           (clear hK K;(try simp only[Act.put,pz]))
           (refine rgy (i:=2) (some 112) ?_;(try simp only[Act.put,pz]))
           refine rgb (i:=7) (by kernel_rfl) rfl (fun K hK=>?_)
           go_simp
           go_at_call 17
           refine (th_rem _ R1 2 z.1.kind z.1.name [eraCh 2 z] wE.drew (HMX.out.below bdA) (HTX.out.below bdA) (HRR.out.below bdA) HRQ.out hl1 hkey HRM.out).mono ?_
           rintro _ w8 ⟨ov,rfl,hc8,-,hb8⟩
           obtain⟨ova,ovc,rfl,-⟩:=_root_.id hc8
           have b8:=bdA.trans hb8
           refine hK.out _ _ (KS b8) (fun hHeld=>?_)
           (clear hK K;(try simp only[Act.put,pz]))
           (refine rgy (i:=8) (some 109) ?_;(try simp only[Act.put,pz]))
           (refine rgy (i:=9) (some 118) ?_;(try simp only[Act.put,pz]))
           (refine rgy (i:=10) (some 119) ?_;(try simp only[Act.put,pz]))
           (refine rgy (i:=11) (some 18) ?_;(try simp only[Act.put,pz]))
           (refine rgy (i:=12) (some 19) ?_;(try simp only[Act.put,pz]))
           refine wpAnyH_done (by kernel_rfl) ?_ _
           have C8:=Lib.hid hc8
           have R8:=Lib.hid (HRR.out.below b8)
           have B8:=Lib.hid (bt HBA.out b8)
           clear hc8 hb8 b8 hHeld bdA KS C0 C1 R13
           go_wp2_with (go_at_call 13;(refine (r35_apply _ _ _ [eraCh 2 z] _ R8.out C8.out hl1 (by show 1<=1000;decide)).mono ?_);rintro _ w9 ⟨v',rfl,hr9,hq9,hb9⟩;have HR9:=Lib.hid hr9;have HQ9:=Lib.hid hq9;have HB9:=Lib.hid (bt B8.out hb9);clear hr9 hq9 hb9)
           go_roundw
           case rel=>exact⟨i,by omega,by go_num,HNX.out _ _ HR9.out,fun q hq=>(HQ9.out q hq).2,HK.out.b.below HB9.out,fun q hq=>Nat.lt_of_lt_of_le (HK.out.bq q hq) HB9.out.size,bt HK.out.bl HB9.out⟩
           case measure=>simp [intOf]
         · have tk:decide (x.1.kind<=2)=false:=decide_eq_false hk
           have HBS:=HB2
           go_upto_region 25 with fail
           clear C0 C1
           have C0:=cell_row R13 0 _ (vals_0 _ _ _)
           have C1:=cell_row R13 1 _ (vals_1 _ _ _)
           have HRR:=Lib.hid (HRR.out.below HBS.out)
           have HRQ:=Lib.hid (fun q (hq:(Value.slice v6a R1.length v6c).ownBlock=some q)=>Nat.lt_of_lt_of_le (HRQ.out q hq) HBS.out.size)
           have HMX:=Lib.hid (HMX.out.below HBS.out)
           have HTX:=Lib.hid (HTX.out.below HBS.out)
           have zA:BX<wc.heap.size:=Nat.lt_of_lt_of_le zA HBS.out.size
           have HBA:=Lib.hid (bt HBA.out HBS.out)
           have KS:∀ {w':World},Below wc.heap.size wc w'->w'.cell? ⟨BX,0,none⟩=some (.int .i64 x.1.kind)∧w'.cell? ⟨BX,1,none⟩=some (.string x.1.name):=fun b=>⟨(b.cell (p:=⟨BX,0,none⟩) zA).trans C0,(b.cell (p:=⟨BX,1,none⟩) zA).trans C1⟩
           refine wp_region_held_drew (S:=(fun w'=>w'.cell? ⟨BX,0,none⟩=some (.int .i64 x.1.kind)∧w'.cell? ⟨BX,1,none⟩=some (.string x.1.name))) (by kernel_rfl) ⟨C0,C1⟩ (fun hHeld=>?_)
           (refine rgy (i:=0) (some 110) ?_;(try simp only[Act.put,pz]))
           (refine rgy (i:=3) (some 113) ?_;(try simp only[Act.put,pz]))
           (refine rgy (i:=4) (some 114) ?_;(try simp only[Act.put,pz]))
           (refine rgy (i:=5) (some 115) ?_;(try simp only[Act.put,pz]))
           (refine rgy (i:=6) (some 116) ?_;(try simp only[Act.put,pz]))
           refine rgb (i:=1) (by kernel_rfl) rfl (fun K hK=>?_)
           have bdA:Below wc.heap.size wc wc.drew:=(Below.refl _ _).drew
           go_simp
           go_at_call 12
           refine (sh35 _ _ _ _).mono ?_
           rintro _ _ ⟨rfl,rfl⟩
           refine hK.out _ _ (KS (bdA.alloc bdA.size _)) (fun hHeld=>?_)
           (clear hK K;(try simp only[Act.put,pz]))
           (refine rgy (i:=2) (some 112) ?_;(try simp only[Act.put,pz]))
           refine rgb (i:=7) (by kernel_rfl) rfl (fun K hK=>?_)
           go_simp
           go_at_call 17
           refine (th_rem _ R1 2 x.1.kind x.1.name [eraCh 2 x] wc.drew (HMX.out.below bdA) (HTX.out.below bdA) (HRR.out.below bdA) HRQ.out hl1 hkey HRM.out).mono ?_
           rintro _ w8 ⟨ov,rfl,hc8,-,hb8⟩
           obtain⟨ova,ovc,rfl,-⟩:=_root_.id hc8
           have b8:=bdA.trans hb8
           refine hK.out _ _ (KS b8) (fun hHeld=>?_)
           (clear hK K;(try simp only[Act.put,pz]))
           (refine rgy (i:=8) (some 109) ?_;(try simp only[Act.put,pz]))
           (refine rgy (i:=9) (some 118) ?_;(try simp only[Act.put,pz]))
           (refine rgy (i:=10) (some 119) ?_;(try simp only[Act.put,pz]))
           (refine rgy (i:=11) (some 18) ?_;(try simp only[Act.put,pz]))
           (refine rgy (i:=12) (some 19) ?_;(try simp only[Act.put,pz]))
           refine wpAnyH_done (by kernel_rfl) ?_ _
           have C8:=Lib.hid hc8
           have R8:=Lib.hid (HRR.out.below b8)
           have B8:=Lib.hid (bt HBA.out b8)
           clear hc8 hb8 b8 hHeld bdA KS C0 C1 R13
           go_wp2_with (go_at_call 13;(refine (r35_apply _ _ _ [eraCh 2 x] _ R8.out C8.out hl1 (by show 1<=1000;decide)).mono ?_);rintro _ w9 ⟨v',rfl,hr9,hq9,hb9⟩;have HR9:=Lib.hid hr9;have HQ9:=Lib.hid hq9;have HB9:=Lib.hid (bt B8.out hb9);clear hr9 hq9 hb9)
           go_roundw
           case rel=>exact⟨i,by omega,by go_num,HNX.out _ _ HR9.out,fun q hq=>(HQ9.out q hq).2,HK.out.b.below HB9.out,fun q hq=>Nat.lt_of_lt_of_le (HK.out.bq q hq) HB9.out.size,bt HK.out.bl HB9.out⟩
           case measure=>simp [intOf]
end Go.Proofs.YtkafnmbldpofdaaGreatDoor
