/- Several texts in one: Ca Cp Cd. -/
import Derived.Test.YtpldecfgjpmmkaaGreatDoorNx
import Derived.Test.YtpldecfgjpmmkaaGreatDoorNo
import Derived.Test.YtpldecfgjpmmkaaGreatDoorRsB
section
/- Contracts of package catalog: absent, erase, leads. -/
namespace Go.Proofs.YtpldecfgjpmmkaaGreatDoor
open Go.RowKit
set_option maxHeartbeats 8000000
set_option maxRecDepth 8000
def absC (e:Int):Int:=if e=0 then 5 else if e=6 then 0 else e
theorem ca_absent (e:Int) (w:World):Calls Tryz.prog 29 #[.int .i64 e] w fun r w'=>r=.returned (.int .i64 (absC e))∧w'=w:=by
 unfold absC
 by_cases h0:e=0
 · subst h0
   go_enter Tryz.func29,Tryz.ntmps29
   go_wp2_with fail
   go_ret
   exact⟨rfl,rfl⟩
 have t0:(e==0)=false:=beq_eq_false_iff_ne.2 h0
 rw[if_neg h0]
 by_cases h6:e=6
 · subst h6
   go_enter Tryz.func29,Tryz.ntmps29
   go_wp2_with fail
   go_ret
   exact⟨rfl,rfl⟩
 have t6:(e==6)=false:=beq_eq_false_iff_ne.2 h6
 rw[if_neg h6]
 go_enter Tryz.func29,Tryz.ntmps29
 go_wp2_with fail
 go_ret
 exact⟨rfl,rfl⟩
def leadsF (l:List Rw) (fl cd ca id:Int) (x:Fu):Int × Int :=
 if x.1.kind≠2 then (0,ca) else match findF l fl cd ca id x.1.target with
  | ((y,c),cb)=>if c≠0 then (c,cb) else if Ds.gen (Ds.bl y.1.name)=true∨y.1.kind=2 then (7,cb) else (0,cb)
attribute [local go_sem ↓] ldEnt stEnt stEntRow bldEnt
attribute [local go_sem] Held_drew isHead_mk headOf_mk offOf_mk isPtr_mk cellsOfV_mk isAggV_mk row_new row_new2 row_new2' row_drew row_drewN vals_size allOne_nil allOne_cons one_int one_bool one_string one_pointer one_slice one_func vals_0 vals_1
theorem ca_leads (p:Nat) (sv:Value) (l:List Rw) (fl cd ca id:Int) (x:Fu) (al gr:Value) (w0 w:World) (hm:MaxL w0) (hT:Tab w0) (hS:SHs w0 w p sv l fl cd ca) (hc0:0≤ca) (hc1:ca≤90000) (hcd:cd≠0∧cd≠6∨fl≤0) (hI:IS w al x.2.1) (hGr:GS w gr x.2.2) :
  Calls Tryz.prog 33 #[.iface 38 (.pointer (some ⟨p,0,none⟩)),.int .i64 id,.agg (x.1.vals al gr)] w fun r w'=>r=.returned (.int .i64 (leadsF l fl cd ca id x).1)∧SHs w0 w' p sv l fl cd (leadsF l fl cd ca id x).2∧w.grownBy w' (some p):=by
 have a1:=vals_one x.1 al gr (is_one hI) (gs_one hGr)
 have HS:=Lib.hid hS
 have hpl:=hS.pl
 have R0:=row_new w (x.1.vals al gr) 28 (0,0)
 have N0:=cell_row R0 0 _ (vals_0 _ _ _)
 clear hI hGr
 generalize hg:leadsF l fl cd ca id x=g
 unfold leadsF at hg
 by_cases hk:x.1.kind=2
 rotate_left
 · rw[if_pos hk] at hg
   subst hg
   have t0:(x.1.kind != 2)=true:=bne_iff_ne.2 hk
   have t1:(x.1.kind==2)=false:=beq_eq_false_iff_ne.2 hk
   clear hk
   go_enter Tryz.func33,Tryz.ntmps33
   go_wp2_with fail
   go_ret
   exact⟨rfl,HS.out.below (below_al' _ _),grown_of_below _ (below_al' _ _)⟩
 rw[if_neg (fun h=>h hk)] at hg
 have N9:=cell_row R0 29 _ (vals_29 _ _ _)
 have B1:=below_al' w (.cells (x.1.vals al gr) 28)
 have hfi:=fun W (h:SHs w0 W p sv l fl cd ca)=>cat_find p sv l fl cd ca id x.1.target w0 W hm hT h hc0 (by omega) hcd
 have hsh:=findF_short l fl cd ca id x.1.target
 generalize findF l fl cd ca id x.1.target=gg at hfi hsh hg
 obtain⟨⟨y,code⟩,cb⟩:=gg
 dsimp only at hsh hg
 have HF:=Lib.hid hfi
 have HB1:=Lib.hid B1
 clear hfi B1
 by_cases h0:code=0
 rotate_left
 · rw[if_pos h0] at hg
   subst hg
   have t1:(code != 0)=true:=by rw[bne_iff_ne];exact h0
   clear h0
   go_enter Tryz.func33,Tryz.ntmps33
   go_wp2_with (go_at_call 20;(refine (HF.out _ (HS.out.below HB1.out)).mono ?_);rintro _ w3 ⟨⟨al2,gr2,rfl,hI,hGs,hf1,hf2⟩,hs3,hg3⟩;have hone:=vals_one y.1 al2 gr2 (is_one hI) (gs_one hGs);have S3:=Lib.hid hs3;have G3:=Lib.hid hg3;clear hI hGs hf1 hf2 hs3 hg3)
   go_ret
   exact⟨rfl,S3.out.below (below_al' _ _),grown_bel (grown_tr (grown_of_below _ HB1.out) G3.out) ((below_al' _ _).mono (by have:=(grown_tr (grown_of_below _ HB1.out) G3.out).size;omega))⟩
 rw[if_neg (fun h=>h h0)] at hg
 subst h0
 have HP:=Lib.hid (fun W (b:Below w0.heap.size w0 W)=>ds_split y.1.name W (Nat.le_trans hsh (by decide)) (hm.below b))
 by_cases hgen:Ds.gen (Ds.bl y.1.name)=true
 · rw[if_pos (.inl hgen)] at hg
   subst hg
   rw[hgen] at HP
   clear hgen
   go_enter Tryz.func33,Tryz.ntmps33
   go_wp2_with (first
    | (go_at_call 20;(refine (HF.out _ (HS.out.below HB1.out)).mono ?_);rintro _ w3 ⟨⟨al2,gr2,rfl,hI,hGs,hf1,hf2⟩,hs3,hg3⟩;have hone:=vals_one y.1 al2 gr2 (is_one hI) (gs_one hGs);have S3:=Lib.hid hs3;have G3:=Lib.hid hg3;have R3:=row_new w3 (y.1.vals al2 gr2) 28 (0,0);have M0:=cell_row R3 0 _ (vals_0 _ _ _);have M1:=cell_row R3 1 _ (vals_1 _ _ _);clear hI hGs hf1 hf2 hs3 hg3)
    | (go_at_call 31;(refine (HP.out _ (S3.out.below (below_al' _ _)).b).mono ?_);rintro _ w4 ⟨rfl,hb⟩;have B4:=Lib.hid (bt (below_al' _ _) hb);clear hb))
   go_ret
   exact⟨rfl,S3.out.below B4.out,grown_bel (grown_tr (grown_of_below _ HB1.out) G3.out) (B4.out.mono (by have:=(grown_tr (grown_of_below _ HB1.out) G3.out).size;omega))⟩
 have hgf:Ds.gen (Ds.bl y.1.name)=false:=Bool.eq_false_iff.2 hgen
 rw[hgf] at HP
 by_cases h2:y.1.kind=2
 · rw[if_pos (.inr h2)] at hg
   subst hg
   have t2:(y.1.kind==2)=true:=beq_iff_eq.2 h2
   clear hgf hgen h2
   go_enter Tryz.func33,Tryz.ntmps33
   go_wp2_with (first
    | (go_at_call 20;(refine (HF.out _ (HS.out.below HB1.out)).mono ?_);rintro _ w3 ⟨⟨al2,gr2,rfl,hI,hGs,hf1,hf2⟩,hs3,hg3⟩;have hone:=vals_one y.1 al2 gr2 (is_one hI) (gs_one hGs);have S3:=Lib.hid hs3;have G3:=Lib.hid hg3;have R3:=row_new w3 (y.1.vals al2 gr2) 28 (0,0);have M0:=cell_row R3 0 _ (vals_0 _ _ _);have M1:=cell_row R3 1 _ (vals_1 _ _ _);clear hI hGs hf1 hf2 hs3 hg3)
    | (go_at_call 31;(refine (HP.out _ (S3.out.below (below_al' _ _)).b).mono ?_);rintro _ w4 ⟨rfl,hb⟩;have B4:=Lib.hid (bt (below_al' _ _) hb);have R4:=row_below hb R3 (by rw[vals_size];decide);have M4:=cell_row R4 0 _ (vals_0 _ _ _);clear hb))
   go_ret
   exact⟨rfl,S3.out.below B4.out,grown_bel (grown_tr (grown_of_below _ HB1.out) G3.out) (B4.out.mono (by have:=(grown_tr (grown_of_below _ HB1.out) G3.out).size;omega))⟩
 · rw[if_neg (by rintro (h | h);exact hgen h;exact h2 h)] at hg
   subst hg
   have t2:(y.1.kind==2)=false:=beq_eq_false_iff_ne.2 h2
   clear hgf hgen h2
   go_enter Tryz.func33,Tryz.ntmps33
   go_wp2_with (first
    | (go_at_call 20;(refine (HF.out _ (HS.out.below HB1.out)).mono ?_);rintro _ w3 ⟨⟨al2,gr2,rfl,hI,hGs,hf1,hf2⟩,hs3,hg3⟩;have hone:=vals_one y.1 al2 gr2 (is_one hI) (gs_one hGs);have S3:=Lib.hid hs3;have G3:=Lib.hid hg3;have R3:=row_new w3 (y.1.vals al2 gr2) 28 (0,0);have M0:=cell_row R3 0 _ (vals_0 _ _ _);have M1:=cell_row R3 1 _ (vals_1 _ _ _);clear hI hGs hf1 hf2 hs3 hg3)
    | (go_at_call 31;(refine (HP.out _ (S3.out.below (below_al' _ _)).b).mono ?_);rintro _ w4 ⟨rfl,hb⟩;have B4:=Lib.hid (bt (below_al' _ _) hb);have R4:=row_below hb R3 (by rw[vals_size];decide);have M4:=cell_row R4 0 _ (vals_0 _ _ _);clear hb))
   go_ret
   exact⟨rfl,S3.out.below B4.out,grown_bel (grown_tr (grown_of_below _ HB1.out) G3.out) (B4.out.mono (by have:=(grown_tr (grown_of_below _ HB1.out) G3.out).size;omega))⟩
end Go.Proofs.YtpldecfgjpmmkaaGreatDoor
end
section
/- Contracts of package catalog: erase, put. -/
namespace Go.Proofs.YtpldecfgjpmmkaaGreatDoor
open Go.RowKit
set_option maxHeartbeats 8000000
set_option maxRecDepth 8000
theorem stCh (ev:Operand→Value) (w:World) (dst x y t' pos af gd) (h1:isHead (ev x)=true) (h2:Held w (headOf (ev x)) 5) (h3:isAggV (ev y)=true) (h4:(cellsOfV (ev y)).size=5) (h5:allOne (cellsOfV (ev y)).toList=true) :
  (execOp ev ⟨dst,.store 65 x y,t',pos,af,gd⟩).run Tryz.prog w=.ok .skip (w.setRow (headOf (ev x)) (cellsOfV (ev y))) :=
 exec_store_row ev w _ 4 (by kernel_rfl) dst x y t' pos af gd h1 h2 h3 h4 h5
def chZ:Array Value:=#[.int .i64 0,.int .i64 0,.string ⟨#[]⟩,.string ⟨#[]⟩,.string ⟨#[]⟩]
def eraCh (id:Int) (x:Fu):Ch:=(1,id,keyZ x.1.kind x.1.name,⟨#[]⟩,⟨#[]⟩)
def recZ (x:Fu):ByteArray:=⟨(if okX x=true then recX x else []).toArray⟩
def putCh (id:Int) (x:Fu):Ch:=(0,id,keyZ x.1.kind x.1.name,recZ x,⟨#[]⟩)
attribute [local go_sem ↓] ldEnt stEnt stEntRow bldEnt stCh
attribute [local go_sem] Held_drew isHead_mk headOf_mk offOf_mk isPtr_mk cellsOfV_mk isAggV_mk row_new row_new2 row_new2' row_drew row_drewN vals_size allOne_nil allOne_cons one_int one_bool one_string one_pointer one_slice one_func vals_0 vals_1
theorem ca_erase (id:Int) (x:Fu) (al gr:Value) (w:World) (_a1:allOne (x.1.vals al gr).toList=true) :
  Calls Tryz.prog 50 #[.int .i64 id,.agg (x.1.vals al gr)] w fun r w'=>r=.returned (.agg (ch5 (eraCh id x)))∧Below w.heap.size w w':=by
 have HK:=Lib.hid (fun W=>pr_key x.1.kind x.1.name W)
 have R0:=row_new2 w (x.1.vals al gr) 28 (0,0) (.cells chZ 65)
 have N0:=cell_row R0 0 _ (vals_0 _ _ _)
 have N1:=cell_row R0 1 _ (vals_1 _ _ _)
 have HH:=Held.new (w.alloc (.cells (x.1.vals al gr) 28)) chZ 65 5 rfl (by decide)
 rw[World.size_alloc] at HH
 unfold chZ at *
 unfold eraCh
 go_enter Tryz.func50,Tryz.ntmps50
 go_wp2_with (go_at_call 43;(with_reducible refine (HK.out _).mono ?_);rintro _ w4 ⟨rfl,hb4⟩;have H4:=HH.below hb4;have B4:=Lib.hid (bt (below2' _ _ _) hb4);clear hb4)
 refine bodyPost_ret (res_row1 (n:=4) rfl Tryz.underlying65 rfl (by kernel_rfl) _ _ (w.heap.size+1) rfl (by rw[row_setRow H4];rfl)) rfl ?_
 rw[row_setRow H4]
 exact⟨rfl,below_setRow B4.out (by omega) _⟩
theorem en_enc (x:Fu) (al gr:Value) (w:World) (hm:MaxL w) (hT:Tab w) (hsz:x.1.name.size≤1000) (h1:IS w al x.2.1) (h2:GS w gr x.2.2) :
  Calls Tryz.prog 64 #[.agg (x.1.vals al gr)] w fun r w'=>r=.returned (.tuple #[.string (recZ x),.int .i64 (if okX x=true then 0 else 1)])∧Below w.heap.size w w':=by
 refine (en_encode x.1 al gr x.2.1 x.2.2 w hm hT hsz h1 h2).mono ?_
 rintro _ w' ⟨t,rfl,ht,hb⟩
 obtain rfl:t=recZ x:=Ds.bl_inj (by rw[ht];unfold recZ;rw[Ds.bl_mk])
 exact⟨rfl,hb⟩
theorem ca_put (id:Int) (x:Fu) (al gr:Value) (w:World) (hm:MaxL w) (hT:Tab w) (hsz:x.1.name.size≤1000) (hI:IS w al x.2.1) (hG:GS w gr x.2.2) :
  Calls Tryz.prog 34 #[.int .i64 id,.agg (x.1.vals al gr)] w fun r w'=>r=.returned (.agg (ch5 (putCh id x)))∧Below w.heap.size w w':=by
 have a1:=vals_one x.1 al gr (is_one hI) (gs_one hG)
 have HK:=Lib.hid (fun W=>pr_key x.1.kind x.1.name W)
 have HE:=Lib.hid (fun W (b:Below w.heap.size w W)=>en_enc x al gr W (hm.below b) (hT.below b) hsz (hI.below b) (hG.below b))
 have R0:=row_new2 w (x.1.vals al gr) 28 (0,0) (.cells chZ 65)
 have HH:=Held.new (w.alloc (.cells (x.1.vals al gr) 28)) chZ 65 5 rfl (by decide)
 rw[World.size_alloc] at HH
 clear hI hG
 unfold chZ at *
 unfold putCh
 generalize recZ x=rz at HE ⊢
 generalize (if okX x=true then (0:Int) else 1)=rc at HE
 go_enter Tryz.func34,Tryz.ntmps34
 go_wp2_with (first
  | (go_at_call 64;(refine (HE.out _ (below2' _ _ _)).mono ?_);rintro _ w3 ⟨rfl,hb⟩;have H3:=HH.below hb;have R3:=row_below hb R0 (by rw[vals_size];decide);have N0:=cell_row R3 0 _ (vals_0 _ _ _);have N1:=cell_row R3 1 _ (vals_1 _ _ _);have B3:=Lib.hid (bt (below2' _ _ _) hb);clear hb)
  | (go_at_call 43;(with_reducible refine (HK.out _).mono ?_);rintro _ w4 ⟨rfl,hb4⟩;have H4:=H3.below hb4;have B4:=Lib.hid (bt B3.out hb4);clear hb4))
 refine bodyPost_ret (res_row1 (n:=4) rfl Tryz.underlying65 rfl (by kernel_rfl) _ _ (w.heap.size+1) rfl (by rw[row_setRow H4];rfl)) rfl ?_
 rw[row_setRow H4]
 exact⟨rfl,below_setRow B4.out (by omega) _⟩
end Go.Proofs.YtpldecfgjpmmkaaGreatDoor
end
section
/- Contracts of package catalog: the checks of Add (its three closures). -/
namespace Go.Proofs.YtpldecfgjpmmkaaGreatDoor
open Go.RowKit
set_option maxHeartbeats 8000000
set_option maxRecDepth 8000
def add1F (l:List Rw) (fl cd ca id:Int) (x:Fu):Int × Int :=
 if 2<x.1.kind then (absC (getF l fl cd ca id x.1.kind x.1.name).1.2,(getF l fl cd ca id x.1.kind x.1.name).2) else (absC (findF l fl cd ca id x.1.name).1.2,(findF l fl cd ca id x.1.name).2)
def add2F (l:List Rw) (fl cd ca id:Int) (x:Fu):Int × Int :=
 if Ds.gen (Ds.bl x.1.name)=true∧x.1.kind=0 then ((getF l fl cd ca id 1 (splZ x.1.name)).1.2,(getF l fl cd ca id 1 (splZ x.1.name)).2) else (0,ca)
attribute [local go_sem ↓] ldEnt stEnt stEntRow bldEnt stCh
attribute [local go_sem] Held_drew isHead_mk headOf_mk offOf_mk isPtr_mk cellsOfV_mk isAggV_mk row_new row_new2 row_new2' row_drew row_drewN vals_size allOne_nil allOne_cons one_int one_bool one_string one_pointer one_slice one_func vals_0 vals_1
theorem ca_add1 (p be br bi:Nat) (sv:Value) (l:List Rw) (fl cd ca id:Int) (x:Fu) (al gr:Value) (w0 w:World) (hm:MaxL w0) (hT:Tab w0) (hS:SHs w0 w p sv l fl cd ca) (hc0:0≤ca) (hc1:ca≤90000) (hcd:cd≠0∧cd≠6∨fl≤0)
  (hR:row w be=x.1.vals al gr) (cr:w.cell? ⟨br,0,none⟩=some (.iface 38 (.pointer (some ⟨p,0,none⟩)))) (ci:w.cell? ⟨bi,0,none⟩=some (.int .i64 id)) :
  Calls Tryz.prog 28 #[.pointer (some ⟨be,0,none⟩),.pointer (some ⟨br,0,none⟩),.pointer (some ⟨bi,0,none⟩)] w fun r w'=>r=.returned (.int .i64 (add1F l fl cd ca id x).1)∧SHs w0 w' p sv l fl cd (add1F l fl cd ca id x).2∧w.grownBy w' (some p):=by
 have HS:=Lib.hid hS
 have hpl:=hS.pl
 have hcd2:cd≠0∨fl≤0:=hcd.imp (fun h=>h.1) (fun h=>h)
 have N0:=cell_row hR 0 _ (vals_0 _ _ _)
 have N1:=cell_row hR 1 _ (vals_1 _ _ _)
 unfold add1F
 by_cases hk:2<x.1.kind
 · have q2:decide (2<x.1.kind)=true:=decide_eq_true hk
   rw[if_pos hk]
   have hget:=fun W (h:SHs w0 W p sv l fl cd ca)=>cat_get p sv l fl cd ca id x.1.kind x.1.name w0 W hm hT h hc0 (by omega) hcd2
   generalize getF l fl cd ca id x.1.kind x.1.name=gg at hget ⊢
   obtain⟨⟨y,code⟩,cb⟩:=gg
   have HGE:=Lib.hid hget
   clear hget
   go_enter Tryz.func28,Tryz.ntmps28
   go_wp2_with (first
    | (go_at_call 18;(refine (HGE.out _ HS.out).mono ?_);rintro _ w3 ⟨⟨al2,gr2,rfl,hI,hGs,hf1,hf2⟩,hs3,hg3⟩;have hone:=vals_one y.1 al2 gr2 (is_one hI) (gs_one hGs);have S3:=Lib.hid hs3;have G3:=Lib.hid hg3;clear hI hGs hf1 hf2 hs3 hg3)
    | (go_at_call 29;(refine (ca_absent _ _).mono ?_);rintro _ _ ⟨rfl,rfl⟩))
   go_ret
   exact⟨rfl,S3.out.below (below_al' _ _),grown_bel G3.out ((below_al' _ _).mono (by have:=G3.out.size;omega))⟩
 · have q2:decide (2<x.1.kind)=false:=decide_eq_false hk
   rw[if_neg hk]
   have hfi:=fun W (h:SHs w0 W p sv l fl cd ca)=>cat_find p sv l fl cd ca id x.1.name w0 W hm hT h hc0 (by omega) hcd
   generalize findF l fl cd ca id x.1.name=gg at hfi ⊢
   obtain⟨⟨y,code⟩,cb⟩:=gg
   have HF:=Lib.hid hfi
   clear hfi
   go_enter Tryz.func28,Tryz.ntmps28
   go_wp2_with (first
    | (go_at_call 20;(refine (HF.out _ HS.out).mono ?_);rintro _ w3 ⟨⟨al2,gr2,rfl,hI,hGs,hf1,hf2⟩,hs3,hg3⟩;have hone:=vals_one y.1 al2 gr2 (is_one hI) (gs_one hGs);have S3:=Lib.hid hs3;have G3:=Lib.hid hg3;clear hI hGs hf1 hf2 hs3 hg3)
    | (go_at_call 29;(refine (ca_absent _ _).mono ?_);rintro _ _ ⟨rfl,rfl⟩))
   go_ret
   exact⟨rfl,S3.out.below (below_al' _ _),grown_bel G3.out ((below_al' _ _).mono (by have:=G3.out.size;omega))⟩
theorem ca_add2 (p be br bi:Nat) (sv:Value) (l:List Rw) (fl cd ca id:Int) (x:Fu) (al gr:Value) (w0 w:World) (hm:MaxL w0) (hT:Tab w0) (hS:SHs w0 w p sv l fl cd ca) (hc0:0≤ca) (hc1:ca≤90000) (hcd:cd≠0∨fl≤0) (hsz:x.1.name.size≤1000)
  (hR:row w be=x.1.vals al gr) (cr:w.cell? ⟨br,0,none⟩=some (.iface 38 (.pointer (some ⟨p,0,none⟩)))) (ci:w.cell? ⟨bi,0,none⟩=some (.int .i64 id)) (l2:br<w.heap.size) (l3:bi<w.heap.size) :
  Calls Tryz.prog 30 #[.pointer (some ⟨be,0,none⟩),.pointer (some ⟨br,0,none⟩),.pointer (some ⟨bi,0,none⟩)] w fun r w'=>r=.returned (.int .i64 (add2F l fl cd ca id x).1)∧SHs w0 w' p sv l fl cd (add2F l fl cd ca id x).2∧w.grownBy w' (some p):=by
 have HS:=Lib.hid hS
 have hpl:=hS.pl
 have N1:=cell_row hR 1 _ (vals_1 _ _ _)
 have HP:=Lib.hid (fun W (b:Below w0.heap.size w0 W)=>ds_split x.1.name W hsz (hm.below b))
 unfold add2F splZ
 cases hgen:Ds.gen (Ds.bl x.1.name)
 · rw[if_neg (by simp)]
   rw[hgen] at HP
   go_enter Tryz.func30,Tryz.ntmps30
   go_wp2_with (go_at_call 31;(refine (HP.out _ HS.out.b).mono ?_);rintro _ w4 ⟨rfl,hb⟩;have B4:=Lib.hid hb;clear hb)
   go_ret
   exact⟨rfl,HS.out.below B4.out,grown_of_below _ B4.out⟩
 rw[hgen] at HP
 generalize (⟨(Ds.splG (Ds.bl x.1.name)).toArray⟩:ByteArray)=sg at HP ⊢
 by_cases hk:x.1.kind=0
 rotate_left
 · rw[if_neg (fun h=>hk h.2)]
   have t1:(x.1.kind != 0)=true:=bne_iff_ne.2 hk
   go_enter Tryz.func30,Tryz.ntmps30
   go_wp2_with (go_at_call 31;(refine (HP.out _ HS.out.b).mono ?_);rintro _ w4 ⟨rfl,hb⟩;have B4:=Lib.hid hb;have R4:=row_below hb hR (by rw[vals_size];decide);have M4:=cell_row R4 0 _ (vals_0 _ _ _);clear hb)
   go_ret
   exact⟨rfl,HS.out.below B4.out,grown_of_below _ B4.out⟩
 rw[if_pos ⟨rfl,hk⟩]
 have t1:(x.1.kind != 0)=false:=by rw[hk];rfl
 have hget:=fun W (h:SHs w0 W p sv l fl cd ca)=>cat_get p sv l fl cd ca id 1 sg w0 W hm hT h hc0 (by omega) hcd
 generalize getF l fl cd ca id 1 sg=gg at hget ⊢
 obtain⟨⟨y,code⟩,cb⟩:=gg
 have HGE:=Lib.hid hget
 clear hget hk
 go_enter Tryz.func30,Tryz.ntmps30
 go_wp2_with (first
  | (go_at_call 31;(refine (HP.out _ HS.out.b).mono ?_);rintro _ w4 ⟨rfl,hb⟩;have B4:=Lib.hid hb;have R4:=row_below hb hR (by rw[vals_size];decide);have M4:=cell_row R4 0 _ (vals_0 _ _ _);have cr4:=(hb.cell (p:=⟨br,0,none⟩) l2).trans cr;have ci4:=(hb.cell (p:=⟨bi,0,none⟩) l3).trans ci;clear hb)
  | (go_at_call 18;(refine (HGE.out _ (HS.out.below B4.out)).mono ?_);rintro _ w3 ⟨⟨al2,gr2,rfl,hI,hGs,hf1,hf2⟩,hs3,hg3⟩;have hone:=vals_one y.1 al2 gr2 (is_one hI) (gs_one hGs);have S3:=Lib.hid hs3;have G3:=Lib.hid hg3;clear hI hGs hf1 hf2 hs3 hg3))
 go_ret
 exact⟨rfl,S3.out.below (below_al' _ _),grown_bel (grown_tr (grown_of_below _ B4.out) G3.out) ((below_al' _ _).mono (by have:=(grown_tr (grown_of_below _ B4.out) G3.out).size;omega))⟩
theorem ca_add3 (p be br bi:Nat) (sv:Value) (l:List Rw) (fl cd ca id:Int) (x:Fu) (al gr:Value) (w0 w:World) (hm:MaxL w0) (hT:Tab w0) (hS:SHs w0 w p sv l fl cd ca) (hc0:0≤ca) (hc1:ca≤90000) (hcd:cd≠0∧cd≠6∨fl≤0)
  (hI:IS w al x.2.1) (hGr:GS w gr x.2.2) (hR:row w be=x.1.vals al gr) (cr:w.cell? ⟨br,0,none⟩=some (.iface 38 (.pointer (some ⟨p,0,none⟩)))) (ci:w.cell? ⟨bi,0,none⟩=some (.int .i64 id)) :
  Calls Tryz.prog 32 #[.pointer (some ⟨br,0,none⟩),.pointer (some ⟨bi,0,none⟩),.pointer (some ⟨be,0,none⟩)] w fun r w'=>r=.returned (.int .i64 (leadsF l fl cd ca id x).1)∧SHs w0 w' p sv l fl cd (leadsF l fl cd ca id x).2∧w.grownBy w' (some p):=by
 have HL:=Lib.hid (ca_leads p sv l fl cd ca id x al gr w0 w hm hT hS hc0 hc1 hcd hI hGr)
 clear hS hI hGr
 generalize leadsF l fl cd ca id x=g at HL ⊢
 go_enter Tryz.func32,Tryz.ntmps32
 go_wp2_with (go_at_call 33;(with_reducible refine HL.out.mono ?_);rintro _ w3 ⟨rfl,hs3,hg3⟩;have S3:=Lib.hid hs3;have G3:=Lib.hid hg3;clear hs3 hg3)
 go_ret
 exact⟨rfl,S3.out,G3.out⟩
end Go.Proofs.YtpldecfgjpmmkaaGreatDoor
end
