/- Several texts in one: Rea Reb. -/
import Derived.Test.YtpldecfgjpmmkaaGreatDoorAk
section
/- Contract of package catalog: Rename. -/
namespace Go.Proofs.YtpldecfgjpmmkaaGreatDoor
open Go.RowKit
set_option maxHeartbeats 8000000
set_option maxRecDepth 8000
def setN (x:Fu) (s:ByteArray):Fu:=({ x.1 with name:=s },x.2)
def setT (x:Fu) (s:ByteArray):Fu:=({ x.1 with target:=s },x.2)
theorem vals_setN (e:En) (al gr:Value) (s:ByteArray):(e.vals al gr).setIfInBounds 1 (.string s)=({ e with name:=s }:En).vals al gr:=by
 unfold En.vals
 simp only[List.setIfInBounds_toArray,List.set_cons_succ,List.set_cons_zero]
theorem vals_setT (e:En) (al gr:Value) (s:ByteArray):(e.vals al gr).setIfInBounds 29 (.string s)=({ e with target:=s }:En).vals al gr:=by
 unfold En.vals
 simp only[List.setIfInBounds_toArray,List.set_cons_succ,List.set_cons_zero]
def renL (id:Int) (x:Fu) (tn:ByteArray) (s:List Fu):List Ch:=eraCh id x::putCh id (setN x tn)::s.map fun a=>putCh id (setT a tn)
def renF (l:List Rw) (fl cd ca id:Int) (name tn:ByteArray):(List Ch × Int) × Int :=
 if Ds.name (Ds.bl tn)=false then (([],1),ca)
 else if (getF l fl cd ca id 0 name).1.2≠0 then (([],(getF l fl cd ca id 0 name).1.2),(getF l fl cd ca id 0 name).2)
 else if Ds.gen (Ds.bl name)=true∨Ds.gen (Ds.bl tn)=true then (([],7),(getF l fl cd ca id 0 name).2)
 else if absC (findF l fl cd (getF l fl cd ca id 0 name).2 id tn).1.2≠0 then (([],absC (findF l fl cd (getF l fl cd ca id 0 name).2 id tn).1.2),(findF l fl cd (getF l fl cd ca id 0 name).2 id tn).2)
 else if (aliF l fl cd (findF l fl cd (getF l fl cd ca id 0 name).2 id tn).2 id name).1.2≠0 then (([],(aliF l fl cd (findF l fl cd (getF l fl cd ca id 0 name).2 id tn).2 id name).1.2),(aliF l fl cd (findF l fl cd (getF l fl cd ca id 0 name).2 id tn).2 id name).2)
 else ((renL id (getF l fl cd ca id 0 name).1.1 tn (aliF l fl cd (findF l fl cd (getF l fl cd ca id 0 name).2 id tn).2 id name).1.1,0),(aliF l fl cd (findF l fl cd (getF l fl cd ca id 0 name).2 id tn).2 id name).2)
def Ali (y:Fu):Prop:=y.2.1=[]∧y.2.2=[]∧y.1.name.size≤60
theorem recS_inv {σ ρ:Type} {step:σ→ByteArray→ByteArray→Except ρ σ} {l:List Rw} {id fl cd:Int} {L:UInt8} (I:σ→Prop) (hI:∀ s k r s',I s→(Ds.bl k).headD 0=L→step s k r=.ok s'→I s') :
  ∀ (f:Nat) (c:Int) (k:List UInt8) (s s':σ) (e c':Int),I s→recS l id fl cd L step f c k s=(.ok (s',e),c')→I s'
 | 0,c,k,s,s',e,c',hs,h=>by
   rw[recS] at h
   cases h;exact hs
 | f+1,c,k,s,s',e,c',hs,h=>by
   rw[recS] at h
   split at h
   · cases h;exact hs
   split at h
   · cases h;exact hs
   rename_i x _
   split at h
   · cases h;exact hs
   rename_i h1
   split at h
   · exact recS_inv I hI f _ _ _ _ _ _ hs h
   rename_i h2
   have hL:(Ds.bl x.2.1).headD 0=L:=by
    refine UInt8.toNat_inj.1 ?_
    have q1:¬ L.toNat<((Ds.bl x.2.1).headD 0).toNat:=fun h=>h1 (UInt8.lt_iff_toNat_lt.2 h)
    have q2:¬ ((Ds.bl x.2.1).headD 0).toNat<L.toNat:=fun h=>h2 (UInt8.lt_iff_toNat_lt.2 h)
    omega
   cases hst:step s x.2.1 x.2.2 with
   | ok s2 =>
     rw[hst] at h
     exact recS_inv I hI f _ _ _ _ _ _ (hI _ _ _ _ hs hL hst) h
   | error e=>rw[hst] at h;cases h
theorem ali_of {y:Fu} (h:okX y=true) (hk:(keyX y).headD 0=65):Ali y:=by
 have h0:=okX_kind y h
 have hn:=okX_name y h
 have h2:y.1.kind=2:=by
  unfold keyX Ek.key at hk
  rw[if_pos ⟨by unfold Ek.isKind;simp only[Bool.and_eq_true,decide_eq_true_eq];exact h0,hn.1⟩] at hk
  have hl:Ek.letter y.1.kind=65:=hk
  have:y.1.kind=0∨y.1.kind=1∨y.1.kind=2∨y.1.kind=3∨y.1.kind=4:=by omega
  rcases this with e | e | e | e | e
  · rw[e] at hl;exact absurd hl (by decide)
  · rw[e] at hl;exact absurd hl (by decide)
  · exact e
  · rw[e] at hl;exact absurd hl (by decide)
  · rw[e] at hl;exact absurd hl (by decide)
 unfold okX at h
 rw[if_neg (by omega),if_neg (by omega),if_pos h2] at h
 unfold okA at h
 simp only[Bool.and_eq_true] at h
 have:=(sameE_eq _ _ _ _ _ _).1 h.2
 refine⟨this.2.1.symm,this.2.2.symm,?_⟩
 have:=hn.1
 rw[Ds.bl_length] at this
 omega
theorem ali_good (l:List Rw) (fl cd ca id:Int) (name:ByteArray):∀ y∈(aliF l fl cd ca id name).1.1,Ali y:=by
 unfold aliF
 cases hr:recS l id fl cd 65 (aliS name) (l.length+1) ca [(65:UInt8) - 1,255] [] with
 | mk a c =>
   cases a with
   | error e=>intro y hy;cases hy
   | ok p =>
     obtain⟨s,code⟩:=p
     have hs:=recS_inv (I:=fun s=>∀ y∈s,Ali y) (fun s k r s' hs hk hst=>by
      unfold aliS at hst
      split at hst
      · cases hst
      rename_i hz
      obtain⟨o1,o2⟩:=readF_ok hz
      split at hst
      · cases hst
        intro y hy
        rcases List.mem_append.1 hy with hy | hy
        · exact hs y hy
        · rw[List.mem_singleton] at hy;subst hy
          exact ali_of o1 (by rw[o2];exact hk)
      · cases hst;exact hs) _ _ _ _ _ _ _ (fun y hy=>by cases hy) hr
     dsimp only
     split
     · intro y hy;cases hy
     · exact hs
theorem recS_len {σ ρ:Type} {step:σ→ByteArray→ByteArray→Except ρ σ} {l:List Rw} {id fl cd:Int} {L:UInt8} (len:σ→Nat) (hI:∀ s k r s',step s k r=.ok s'→len s'≤len s+1) :
  ∀ (f:Nat) (c:Int) (k:List UInt8) (s s':σ) (e c':Int),recS l id fl cd L step f c k s=(.ok (s',e),c')→len s'≤len s+f
 | 0,c,k,s,s',e,c',h=>by
   rw[recS] at h
   cases h;omega
 | f+1,c,k,s,s',e,c',h=>by
   rw[recS] at h
   split at h
   · cases h;omega
   split at h
   · cases h;omega
   rename_i x _
   split at h
   · cases h;omega
   split at h
   · have:=recS_len len hI f _ _ _ _ _ _ h;omega
   cases hst:step s x.2.1 x.2.2 with
   | ok s2 =>
     rw[hst] at h
     have h1:=recS_len len hI f _ _ _ _ _ _ h
     have h2:=hI _ _ _ _ hst
     omega
   | error e=>rw[hst] at h;cases h
theorem aliF_len (l:List Rw) (fl cd ca id:Int) (name:ByteArray):(aliF l fl cd ca id name).1.1.length≤l.length+1:=by
 unfold aliF
 cases hr:recS l id fl cd 65 (aliS name) (l.length+1) ca [(65:UInt8) - 1,255] [] with
 | mk a c =>
   cases a with
   | error e=>exact Nat.zero_le _
   | ok p =>
     obtain⟨s,code⟩:=p
     have h:=recS_len List.length (aliS_len name) _ _ _ _ _ _ _ hr
     dsimp only
     split
     · exact Nat.zero_le _
     · simpa using h
end Go.Proofs.YtpldecfgjpmmkaaGreatDoor
end
section
/- Contract of package catalog: Rename (the walk). -/
namespace Go.Proofs.YtpldecfgjpmmkaaGreatDoor
open Go.RowKit
set_option maxHeartbeats 16000000
set_option maxRecDepth 8000
theorem grown_b {a b c:World} {p:Option Nat} (h:a.grownBy b p) (k:Below b.heap.size b c):a.grownBy c p:=grown_bel h (k.mono h.size)
theorem held_gr {w w':World} {p b n:Nat} (h:Held w b n) (hg:w.grownBy w' (some p)) (hne:b≠p):Held w' b n:=h.of_block (hg.block b h.lt (fun e=>hne (Option.some.inj e)))
theorem is_setB {wb w:World} {al v:Value} {l:List Int} {be i:Nat} (h0:IS wb al l) (hlt:wb.heap.size≤be) (h:IS w al l):IS (w.setCell ⟨be,i,none⟩ v) al l:=by
 obtain⟨a,c,rfl,hz,hc⟩:=h0
 obtain⟨a',c',e,-,hc'⟩:=h
 cases e
 refine⟨_,_,rfl,hz,fun hp=>?_⟩
 obtain⟨b,o,ha,hb,-⟩:=hc hp
 obtain⟨b',o',ha',hb',hcell⟩:=hc' hp
 subst ha
 cases ha'
 exact⟨_,_,rfl,by simpa using hb',fun k hk=>by rw[World.cell?_setCell_other _ _ _ _ (by intro h;cases h;omega)];exact hcell k hk⟩
theorem gs_setB {wb w:World} {al v:Value} {l:List Gr} {be i:Nat} (h0:GS wb al l) (hlt:wb.heap.size≤be) (h:GS w al l):GS (w.setCell ⟨be,i,none⟩ v) al l:=by
 obtain⟨a,c,rfl,hz,hc⟩:=h0
 obtain⟨a',c',e,-,hc'⟩:=h
 cases e
 refine⟨_,_,rfl,hz,fun hp=>?_⟩
 obtain⟨b,o,ha,hb,-⟩:=hc hp
 obtain⟨b',o',ha',hb',hcell⟩:=hc' hp
 subst ha
 cases ha'
 have hne:∀ j,(w.setCell ⟨be,i,none⟩ v).cell? ⟨b,j,none⟩=w.cell? ⟨b,j,none⟩:=fun j=>World.cell?_setCell_other _ _ _ _ (by intro h;cases h;omega)
 exact⟨_,_,rfl,by simpa using hb',fun k hk=>⟨(hne _).trans (hcell k hk).1,(hne _).trans (hcell k hk).2.1,(hne _).trans (hcell k hk).2.2⟩⟩
theorem is_nil0 (W:World) (a:Option Addr) (c:Nat):IS W (.slice a 0 c) []:=⟨a,c,rfl,by simp,fun h=>by simp at h⟩
theorem gs_nil0 (W:World) (a:Option Addr) (c:Nat):GS W (.slice a 0 c) []:=⟨a,c,rfl,by simp,fun h=>by simp at h⟩
theorem own_ch1 (W:World) (x:Ch) (t:TypeId):(W.alloc (.cells (ch5 x) t)).ownsRow W.heap.size t 5 (.slice (some ⟨W.heap.size,0,none⟩) 1 1) 1 (cv [x]):=by
 refine⟨?_,.inr ⟨W.heap.size,1,ch5 x,rfl,Nat.le_refl _,heap_alloc_new W _,Nat.le_refl _,by unfold maxLen;omega,rfl,?_⟩⟩
 · rw[cv_len];rfl
 · exact (show List.take (1*5) (ch5 x).toList=(ch5 x).toList from rfl).trans (List.append_nil _).symm
attribute [local go_sem ↓] ldEnt ldEntM stEnt stEntRow bldEnt stCh
attribute [local go_sem] Held_drew isHead_mk headOf_mk offOf_mk isPtr_mk cellsOfV_mk isAggV_mk row_new row_new2 row_new2' row_drew row_drewN vals_size allOne_nil allOne_cons one_int one_bool one_string one_pointer one_slice one_func vals_0 vals_1
theorem ca_rename (p:Nat) (sv:Value) (l:List Rw) (fl cd ca id:Int) (name tn:ByteArray) (w0 w:World) (hm:MaxL w0) (hT:Tab w0) (hS:SHs w0 w p sv l fl cd ca) (hso:∀ b,sv.ownBlock=some b→b<w.heap.size) (hl:l.length≤1000) (hc0:0≤ca) (hc1:ca≤80000) (hcd:cd≠0∧cd≠6∨fl≤0) (hns:name.size≤1000) (hts:tn.size≤1000) :
  Calls Tryz.prog 24 #[.iface 38 (.pointer (some ⟨p,0,none⟩)),.int .i64 id,.string name,.string tn] w fun r w'=>ChR w0 w w' p sv l fl cd (renF l fl cd ca id name tn) r:=by
 have S:=Lib.hid hS
 have G:=Lib.hid (World.grownBy.refl w (some p))
 have hz0:=hS.b.size
 have hpl:=hS.pl
 have hcd2:cd≠0∨fl≤0:=hcd.imp (fun h=>h.1) (fun h=>h)
 have hvv:=fun W (b:Below w0.heap.size w0 W)=>ds_valid tn W (hm.below b)
 have hi1:=fun W (b:Below w0.heap.size w0 W)=>ca_isgen name W hns (hm.below b)
 have hi2:=fun W (b:Below w0.heap.size w0 W)=>ca_isgen tn W hts (hm.below b)
 clear hS
 unfold renF
 generalize Ds.name (Ds.bl tn)=bv at hvv ⊢
 have HV:=Lib.hid hvv
 clear hvv
 cases bv
 · rw[if_pos rfl]
   go_enter Tryz.func24,Tryz.ntmps24
   go_wp2_with (first | (go_at_call 47;(with_reducible refine (HV.out _ S.out.b).mono ?_);rintro _ w1 ⟨rfl,hb⟩;have G:=Lib.hid (grown_b G.out hb);have S:=Lib.hid (S.out.below hb);clear hb))
   go_ret2
   exact⟨_,rfl,chs_nil _,S.out,G.out⟩
 rw[if_neg (by simp)]
 have hget:=fun W (h:SHs w0 W p sv l fl cd ca)=>cat_get p sv l fl cd ca id 0 name w0 W hm hT h hc0 (by omega) hcd2
 have hca:=getF_ca l fl cd ca id 0 name
 have hsh:=getF_short l fl cd ca id 0 name
 generalize getF l fl cd ca id 0 name=gg at hget hca hsh ⊢
 obtain⟨⟨y,code⟩,cb⟩:=gg
 dsimp only at hca hsh ⊢
 have HGE:=Lib.hid hget
 clear hget
 by_cases h0:code=0
 rotate_left
 · rw[if_pos h0]
   have t1:(code != 0)=true:=by rw[bne_iff_ne];exact h0
   clear h0
   go_enter Tryz.func24,Tryz.ntmps24
   go_wp2_with (first | (go_at_call 47;(with_reducible refine (HV.out _ S.out.b).mono ?_);rintro _ w1 ⟨rfl,hb⟩;have G:=Lib.hid (grown_b G.out hb);have S:=Lib.hid (S.out.below hb);clear hb) | (go_at_call 18;(refine (HGE.out _ S.out).mono ?_);rintro _ w2 ⟨⟨al,gr,rfl,hI,hGs,hf1,hf2⟩,hs,hg⟩;clear HGE;have hone:=vals_one y.1 al gr (is_one hI) (gs_one hGs);have z2:=hs.pl;have zS:=S.out.pl;have O1:∀ q,al.ownBlock=some q→p<q:=(fun q hq=>by have:=hf1 q hq;omega);have O2:∀ q,gr.ownBlock=some q→p<q:=(fun q hq=>by have:=hf2 q hq;omega);have nb:w2.heap.size≠p:=(by omega);have zw:w.heap.size≤w2.heap.size:=(grown_tr G.out hg).size;have I0:=Lib.hid hI;have J0:=Lib.hid hGs;have I:=Lib.hid (hI.below (below_al' w2 (.cells (y.1.vals al gr) 28)));have J:=Lib.hid (hGs.below (below_al' w2 (.cells (y.1.vals al gr) 28)));have R:=row_new w2 (y.1.vals al gr) 28 (0,0);have H:=held_n w2 (y.1.vals al gr) 28 (vals_size _ _ _);have G:=Lib.hid (grown_b (grown_tr G.out hg) (below_al' w2 (.cells (y.1.vals al gr) 28)));have S:=Lib.hid (hs.below (below_al' w2 (.cells (y.1.vals al gr) 28)));clear hI hGs hf1 hf2 hs hg))
   go_ret2
   exact⟨_,rfl,chs_nil _,S.out,G.out⟩
 rw[if_neg (fun h=>h h0)]
 subst h0
 generalize Ds.gen (Ds.bl name)=b1 at hi1 ⊢
 generalize Ds.gen (Ds.bl tn)=b2 at hi2 ⊢
 have HI1:=Lib.hid hi1
 have HI2:=Lib.hid hi2
 clear hi1 hi2
 cases b1
 rotate_left
 · rw[if_pos (.inl rfl)]
   go_enter Tryz.func24,Tryz.ntmps24
   go_wp2_with (first | (go_at_call 47;(with_reducible refine (HV.out _ S.out.b).mono ?_);rintro _ w1 ⟨rfl,hb⟩;have G:=Lib.hid (grown_b G.out hb);have S:=Lib.hid (S.out.below hb);clear hb) | (go_at_call 18;(refine (HGE.out _ S.out).mono ?_);rintro _ w2 ⟨⟨al,gr,rfl,hI,hGs,hf1,hf2⟩,hs,hg⟩;clear HGE;have hone:=vals_one y.1 al gr (is_one hI) (gs_one hGs);have z2:=hs.pl;have zS:=S.out.pl;have O1:∀ q,al.ownBlock=some q→p<q:=(fun q hq=>by have:=hf1 q hq;omega);have O2:∀ q,gr.ownBlock=some q→p<q:=(fun q hq=>by have:=hf2 q hq;omega);have nb:w2.heap.size≠p:=(by omega);have zw:w.heap.size≤w2.heap.size:=(grown_tr G.out hg).size;have I0:=Lib.hid hI;have J0:=Lib.hid hGs;have I:=Lib.hid (hI.below (below_al' w2 (.cells (y.1.vals al gr) 28)));have J:=Lib.hid (hGs.below (below_al' w2 (.cells (y.1.vals al gr) 28)));have R:=row_new w2 (y.1.vals al gr) 28 (0,0);have H:=held_n w2 (y.1.vals al gr) 28 (vals_size _ _ _);have G:=Lib.hid (grown_b (grown_tr G.out hg) (below_al' w2 (.cells (y.1.vals al gr) 28)));have S:=Lib.hid (hs.below (below_al' w2 (.cells (y.1.vals al gr) 28)));clear hI hGs hf1 hf2 hs hg) | (go_at_call 51;(with_reducible refine (HI1.out _ S.out.b).mono ?_);rintro _ w3 ⟨rfl,hb⟩;clear HI1;have R:=row_below hb R (by rw[vals_size];decide);have H:=H.below hb;have I:=Lib.hid (I.out.below hb);have J:=Lib.hid (J.out.below hb);have G:=Lib.hid (grown_b G.out hb);have S:=Lib.hid (S.out.below hb);clear hb))
   go_ret2
   exact⟨_,rfl,chs_nil _,S.out,G.out⟩
 cases b2
 rotate_left
 · rw[if_pos (.inr rfl)]
   go_enter Tryz.func24,Tryz.ntmps24
   go_wp2_with (first | (go_at_call 47;(with_reducible refine (HV.out _ S.out.b).mono ?_);rintro _ w1 ⟨rfl,hb⟩;have G:=Lib.hid (grown_b G.out hb);have S:=Lib.hid (S.out.below hb);clear hb) | (go_at_call 18;(refine (HGE.out _ S.out).mono ?_);rintro _ w2 ⟨⟨al,gr,rfl,hI,hGs,hf1,hf2⟩,hs,hg⟩;clear HGE;have hone:=vals_one y.1 al gr (is_one hI) (gs_one hGs);have z2:=hs.pl;have zS:=S.out.pl;have O1:∀ q,al.ownBlock=some q→p<q:=(fun q hq=>by have:=hf1 q hq;omega);have O2:∀ q,gr.ownBlock=some q→p<q:=(fun q hq=>by have:=hf2 q hq;omega);have nb:w2.heap.size≠p:=(by omega);have zw:w.heap.size≤w2.heap.size:=(grown_tr G.out hg).size;have I0:=Lib.hid hI;have J0:=Lib.hid hGs;have I:=Lib.hid (hI.below (below_al' w2 (.cells (y.1.vals al gr) 28)));have J:=Lib.hid (hGs.below (below_al' w2 (.cells (y.1.vals al gr) 28)));have R:=row_new w2 (y.1.vals al gr) 28 (0,0);have H:=held_n w2 (y.1.vals al gr) 28 (vals_size _ _ _);have G:=Lib.hid (grown_b (grown_tr G.out hg) (below_al' w2 (.cells (y.1.vals al gr) 28)));have S:=Lib.hid (hs.below (below_al' w2 (.cells (y.1.vals al gr) 28)));clear hI hGs hf1 hf2 hs hg) | (go_at_call 51;(with_reducible refine (HI1.out _ S.out.b).mono ?_);rintro _ w3 ⟨rfl,hb⟩;clear HI1;have R:=row_below hb R (by rw[vals_size];decide);have H:=H.below hb;have I:=Lib.hid (I.out.below hb);have J:=Lib.hid (J.out.below hb);have G:=Lib.hid (grown_b G.out hb);have S:=Lib.hid (S.out.below hb);clear hb) | (go_at_call 51;(with_reducible refine (HI2.out _ S.out.b).mono ?_);rintro _ w3 ⟨rfl,hb⟩;clear HI2;have R:=row_below hb R (by rw[vals_size];decide);have H:=H.below hb;have I:=Lib.hid (I.out.below hb);have J:=Lib.hid (J.out.below hb);have G:=Lib.hid (grown_b G.out hb);have S:=Lib.hid (S.out.below hb);clear hb))
   go_ret2
   exact⟨_,rfl,chs_nil _,S.out,G.out⟩
 rw[if_neg (by simp)]
 have hfi:=fun W (h:SHs w0 W p sv l fl cd cb)=>cat_find p sv l fl cd cb id tn w0 W hm hT h (by omega) (by omega) hcd
 have hcf:=findF_ca l fl cd cb id tn
 generalize findF l fl cd cb id tn=gf at hfi hcf ⊢
 obtain⟨⟨yf,c2⟩,cc⟩:=gf
 dsimp only at hcf ⊢
 have HF:=Lib.hid hfi
 clear hfi
 by_cases h1:absC c2=0
 rotate_left
 · rw[if_pos h1]
   have t1:(absC c2 != 0)=true:=by rw[bne_iff_ne];exact h1
   clear h1
   go_enter Tryz.func24,Tryz.ntmps24
   go_wp2_with (first | (go_at_call 47;(with_reducible refine (HV.out _ S.out.b).mono ?_);rintro _ w1 ⟨rfl,hb⟩;have G:=Lib.hid (grown_b G.out hb);have S:=Lib.hid (S.out.below hb);clear hb) | (go_at_call 18;(refine (HGE.out _ S.out).mono ?_);rintro _ w2 ⟨⟨al,gr,rfl,hI,hGs,hf1,hf2⟩,hs,hg⟩;clear HGE;have hone:=vals_one y.1 al gr (is_one hI) (gs_one hGs);have z2:=hs.pl;have zS:=S.out.pl;have O1:∀ q,al.ownBlock=some q→p<q:=(fun q hq=>by have:=hf1 q hq;omega);have O2:∀ q,gr.ownBlock=some q→p<q:=(fun q hq=>by have:=hf2 q hq;omega);have nb:w2.heap.size≠p:=(by omega);have zw:w.heap.size≤w2.heap.size:=(grown_tr G.out hg).size;have I0:=Lib.hid hI;have J0:=Lib.hid hGs;have I:=Lib.hid (hI.below (below_al' w2 (.cells (y.1.vals al gr) 28)));have J:=Lib.hid (hGs.below (below_al' w2 (.cells (y.1.vals al gr) 28)));have R:=row_new w2 (y.1.vals al gr) 28 (0,0);have H:=held_n w2 (y.1.vals al gr) 28 (vals_size _ _ _);have G:=Lib.hid (grown_b (grown_tr G.out hg) (below_al' w2 (.cells (y.1.vals al gr) 28)));have S:=Lib.hid (hs.below (below_al' w2 (.cells (y.1.vals al gr) 28)));clear hI hGs hf1 hf2 hs hg) | (go_at_call 51;(with_reducible refine (HI1.out _ S.out.b).mono ?_);rintro _ w3 ⟨rfl,hb⟩;clear HI1;have R:=row_below hb R (by rw[vals_size];decide);have H:=H.below hb;have I:=Lib.hid (I.out.below hb);have J:=Lib.hid (J.out.below hb);have G:=Lib.hid (grown_b G.out hb);have S:=Lib.hid (S.out.below hb);clear hb) | (go_at_call 51;(with_reducible refine (HI2.out _ S.out.b).mono ?_);rintro _ w3 ⟨rfl,hb⟩;clear HI2;have R:=row_below hb R (by rw[vals_size];decide);have H:=H.below hb;have I:=Lib.hid (I.out.below hb);have J:=Lib.hid (J.out.below hb);have G:=Lib.hid (grown_b G.out hb);have S:=Lib.hid (S.out.below hb);clear hb) | (go_at_call 20;(refine (HF.out _ S.out).mono ?_);rintro _ w4 ⟨⟨al2,gr2,rfl,hI2,hG2,-,-⟩,hs,hg⟩;have hone2:=vals_one yf.1 al2 gr2 (is_one hI2) (gs_one hG2);have R:=row_grownP R (by rw[vals_size];decide) hg nb;have H:=held_gr H hg nb;have I:=Lib.hid (is_grown I.out hg O1);have J:=Lib.hid (gs_grown J.out hg O2);have G:=Lib.hid (grown_tr G.out hg);have S:=Lib.hid hs;clear hI2 hG2 hs hg) | (go_at_call 29;(refine (ca_absent _ _).mono ?_);rintro _ _ ⟨rfl,rfl⟩))
   go_ret2
   exact⟨_,rfl,chs_nil _,S.out,G.out⟩
 rw[if_neg (fun h=>h h1)]
 have t2:(absC c2 != 0)=false:=by rw[h1];rfl
 clear h1
 have hal:=fun W (h:SHs w0 W p sv l fl cd cc) (ho:∀ b,sv.ownBlock=some b→b<W.heap.size)=>ca_aliases p sv l fl cd cc id name w0 W hm hT h ho hl (by omega) (by omega) hcd
 have hgo:=ali_good l fl cd cc id name
 have hle:=aliF_len l fl cd cc id name
 generalize aliF l fl cd cc id name=ga at hal hgo hle ⊢
 obtain⟨⟨s,c3⟩,ce⟩:=ga
 dsimp only at hgo hle ⊢
 have HAL:=Lib.hid hal
 clear hal
 by_cases h3:c3=0
 rotate_left
 · rw[if_pos h3]
   have t1:(c3 != 0)=true:=by rw[bne_iff_ne];exact h3
   clear h3
   go_enter Tryz.func24,Tryz.ntmps24
   go_wp2_with (first | (go_at_call 47;(with_reducible refine (HV.out _ S.out.b).mono ?_);rintro _ w1 ⟨rfl,hb⟩;have G:=Lib.hid (grown_b G.out hb);have S:=Lib.hid (S.out.below hb);clear hb) | (go_at_call 18;(refine (HGE.out _ S.out).mono ?_);rintro _ w2 ⟨⟨al,gr,rfl,hI,hGs,hf1,hf2⟩,hs,hg⟩;clear HGE;have hone:=vals_one y.1 al gr (is_one hI) (gs_one hGs);have z2:=hs.pl;have zS:=S.out.pl;have O1:∀ q,al.ownBlock=some q→p<q:=(fun q hq=>by have:=hf1 q hq;omega);have O2:∀ q,gr.ownBlock=some q→p<q:=(fun q hq=>by have:=hf2 q hq;omega);have nb:w2.heap.size≠p:=(by omega);have zw:w.heap.size≤w2.heap.size:=(grown_tr G.out hg).size;have I0:=Lib.hid hI;have J0:=Lib.hid hGs;have I:=Lib.hid (hI.below (below_al' w2 (.cells (y.1.vals al gr) 28)));have J:=Lib.hid (hGs.below (below_al' w2 (.cells (y.1.vals al gr) 28)));have R:=row_new w2 (y.1.vals al gr) 28 (0,0);have H:=held_n w2 (y.1.vals al gr) 28 (vals_size _ _ _);have G:=Lib.hid (grown_b (grown_tr G.out hg) (below_al' w2 (.cells (y.1.vals al gr) 28)));have S:=Lib.hid (hs.below (below_al' w2 (.cells (y.1.vals al gr) 28)));clear hI hGs hf1 hf2 hs hg) | (go_at_call 51;(with_reducible refine (HI1.out _ S.out.b).mono ?_);rintro _ w3 ⟨rfl,hb⟩;clear HI1;have R:=row_below hb R (by rw[vals_size];decide);have H:=H.below hb;have I:=Lib.hid (I.out.below hb);have J:=Lib.hid (J.out.below hb);have G:=Lib.hid (grown_b G.out hb);have S:=Lib.hid (S.out.below hb);clear hb) | (go_at_call 51;(with_reducible refine (HI2.out _ S.out.b).mono ?_);rintro _ w3 ⟨rfl,hb⟩;clear HI2;have R:=row_below hb R (by rw[vals_size];decide);have H:=H.below hb;have I:=Lib.hid (I.out.below hb);have J:=Lib.hid (J.out.below hb);have G:=Lib.hid (grown_b G.out hb);have S:=Lib.hid (S.out.below hb);clear hb) | (go_at_call 20;(refine (HF.out _ S.out).mono ?_);rintro _ w4 ⟨⟨al2,gr2,rfl,hI2,hG2,-,-⟩,hs,hg⟩;have hone2:=vals_one yf.1 al2 gr2 (is_one hI2) (gs_one hG2);have R:=row_grownP R (by rw[vals_size];decide) hg nb;have H:=held_gr H hg nb;have I:=Lib.hid (is_grown I.out hg O1);have J:=Lib.hid (gs_grown J.out hg O2);have G:=Lib.hid (grown_tr G.out hg);have S:=Lib.hid hs;clear hI2 hG2 hs hg) | (go_at_call 29;(refine (ca_absent _ _).mono ?_);rintro _ _ ⟨rfl,rfl⟩) | (go_at_call 49;(refine (HAL.out _ S.out (fun b hb=>Nat.lt_of_lt_of_le (hso b hb) G.out.size)).mono ?_);rintro _ w5 ⟨hv,rws,rfl,hJ,hs,hg⟩;have zb:=H.lt;obtain⟨va,vc,rfl⟩:=owns_sl hJ.own;rw[List.length_map] at hJ;have HJL:=Lib.hid hJ;have R:=row_grownP R (by rw[vals_size];decide) hg nb;have H:=held_gr H hg nb;have I:=Lib.hid (is_grown I.out hg O1);have J:=Lib.hid (gs_grown J.out hg O2);have G:=Lib.hid (grown_tr G.out hg);have S:=Lib.hid hs;clear hJ hs hg))
   go_ret2
   exact⟨_,rfl,chs_nil _,S.out,G.out⟩
 rw[if_neg (fun h=>h h3)]
 subst h3
 have hpu:∀ W (b:Below w0.heap.size w0 W) al gr (i1:IS W al y.2.1) (i2:GS W gr y.2.2),Calls Tryz.prog 34 #[.int .i64 id,.agg ((setN y tn).1.vals al gr)] W fun r w'=>r=.returned (.agg #[.int .i64 0,.int .i64 id,.string (keyZ (setN y tn).1.kind (setN y tn).1.name),.string (recZ (setN y tn)),.string ⟨#[]⟩])∧Below W.heap.size W w':=fun W b al gr i1 i2=>ca_put id (setN y tn) al gr W (hm.below b) (hT.below b) hts i1 i2
 have her:∀ W al gr,allOne (y.1.vals al gr).toList=true→Calls Tryz.prog 50 #[.int .i64 id,.agg (y.1.vals al gr)] W fun r w'=>r=.returned (.agg #[.int .i64 1,.int .i64 id,.string (keyZ y.1.kind y.1.name),.string ⟨#[]⟩,.string ⟨#[]⟩])∧Below W.heap.size W w':=fun W al gr h=>ca_erase id y al gr W h
 have HPU:=Lib.hid hpu
 have HER:=Lib.hid her
 clear hpu her
 unfold renL eraCh putCh
 generalize keyZ y.1.kind y.1.name=k1 at HER ⊢
 generalize keyZ (setN y tn).1.kind (setN y tn).1.name=k2 at HPU ⊢
 generalize recZ (setN y tn)=r2 at HPU ⊢
 go_enter Tryz.func24,Tryz.ntmps24
 go_wp2_with (first | (go_at_call 47;(with_reducible refine (HV.out _ S.out.b).mono ?_);rintro _ w1 ⟨rfl,hb⟩;have G:=Lib.hid (grown_b G.out hb);have S:=Lib.hid (S.out.below hb);clear hb) | (go_at_call 18;(refine (HGE.out _ S.out).mono ?_);rintro _ w2 ⟨⟨al,gr,rfl,hI,hGs,hf1,hf2⟩,hs,hg⟩;clear HGE;have hone:=vals_one y.1 al gr (is_one hI) (gs_one hGs);have z2:=hs.pl;have zS:=S.out.pl;have O1:∀ q,al.ownBlock=some q→p<q:=(fun q hq=>by have:=hf1 q hq;omega);have O2:∀ q,gr.ownBlock=some q→p<q:=(fun q hq=>by have:=hf2 q hq;omega);have nb:w2.heap.size≠p:=(by omega);have zw:w.heap.size≤w2.heap.size:=(grown_tr G.out hg).size;have I0:=Lib.hid hI;have J0:=Lib.hid hGs;have I:=Lib.hid (hI.below (below_al' w2 (.cells (y.1.vals al gr) 28)));have J:=Lib.hid (hGs.below (below_al' w2 (.cells (y.1.vals al gr) 28)));have R:=row_new w2 (y.1.vals al gr) 28 (0,0);have H:=held_n w2 (y.1.vals al gr) 28 (vals_size _ _ _);have G:=Lib.hid (grown_b (grown_tr G.out hg) (below_al' w2 (.cells (y.1.vals al gr) 28)));have S:=Lib.hid (hs.below (below_al' w2 (.cells (y.1.vals al gr) 28)));clear hI hGs hf1 hf2 hs hg) | (go_at_call 51;(with_reducible refine (HI1.out _ S.out.b).mono ?_);rintro _ w3 ⟨rfl,hb⟩;clear HI1;have R:=row_below hb R (by rw[vals_size];decide);have H:=H.below hb;have I:=Lib.hid (I.out.below hb);have J:=Lib.hid (J.out.below hb);have G:=Lib.hid (grown_b G.out hb);have S:=Lib.hid (S.out.below hb);clear hb) | (go_at_call 51;(with_reducible refine (HI2.out _ S.out.b).mono ?_);rintro _ w3 ⟨rfl,hb⟩;clear HI2;have R:=row_below hb R (by rw[vals_size];decide);have H:=H.below hb;have I:=Lib.hid (I.out.below hb);have J:=Lib.hid (J.out.below hb);have G:=Lib.hid (grown_b G.out hb);have S:=Lib.hid (S.out.below hb);clear hb) | (go_at_call 20;(refine (HF.out _ S.out).mono ?_);rintro _ w4 ⟨⟨al2,gr2,rfl,hI2,hG2,-,-⟩,hs,hg⟩;have hone2:=vals_one yf.1 al2 gr2 (is_one hI2) (gs_one hG2);have R:=row_grownP R (by rw[vals_size];decide) hg nb;have H:=held_gr H hg nb;have I:=Lib.hid (is_grown I.out hg O1);have J:=Lib.hid (gs_grown J.out hg O2);have G:=Lib.hid (grown_tr G.out hg);have S:=Lib.hid hs;clear hI2 hG2 hs hg) | (go_at_call 29;(refine (ca_absent _ _).mono ?_);rintro _ _ ⟨rfl,rfl⟩) | (go_at_call 49;(refine (HAL.out _ S.out (fun b hb=>Nat.lt_of_lt_of_le (hso b hb) G.out.size)).mono ?_);rintro _ w5 ⟨hv,rws,rfl,hJ,hs,hg⟩;have zb:=H.lt;obtain⟨va,vc,rfl⟩:=owns_sl hJ.own;rw[List.length_map] at hJ;have HJL:=Lib.hid hJ;have R:=row_grownP R (by rw[vals_size];decide) hg nb;have H:=held_gr H hg nb;have I:=Lib.hid (is_grown I.out hg O1);have J:=Lib.hid (gs_grown J.out hg O2);have G:=Lib.hid (grown_tr G.out hg);have S:=Lib.hid hs;clear hJ hs hg) | (go_at_call 50;(refine (HER.out _ _ _ hone).mono ?_);rintro _ w6 ⟨rfl,hb⟩;have zb6:=hb.size;have HJL:=Lib.hid (HJL.out.below hb);have R:=row_below hb R (by rw[vals_size];decide);have H:=H.below hb;have I:=Lib.hid (I.out.below hb);have J:=Lib.hid (J.out.below hb);have G:=Lib.hid (grown_b G.out hb);have S:=Lib.hid (S.out.below hb);have zh6:=H.lt;have NA:=cell_row R 1 _ (vals_1 _ _ _);have FA:=H.2.2 1;have RS:row (w6.setCell ⟨w2.heap.size,1,none⟩ (.string tn)) w2.heap.size=(setN y tn).1.vals al gr:=((row_setCell _ _ 1 (.string tn) _ R (by rw[vals_size];decide)).trans (vals_setN _ _ _ _));have BAl:=below_al' (w6.setCell ⟨w2.heap.size,1,none⟩ (.string tn)) (.cells #[.int .i64 1,.int .i64 id,.string k1,.string ⟨#[]⟩,.string ⟨#[]⟩] 65);have R6:=row_below BAl RS (by rw[vals_size];decide);have I6:=Lib.hid ((is_setB (i:=1) (v:=.string tn) I0.out (Nat.le_refl _) I.out).below BAl);have J6:=Lib.hid ((gs_setB (i:=1) (v:=.string tn) J0.out (Nat.le_refl _) J.out).below BAl);have GB:=Lib.hid (grown_b (grown_setCell w6 ⟨w2.heap.size,1,none⟩ (.string tn)) BAl);have B6:=(S.out.other GB.out (fun e=>nb e.symm) (by show w0.heap.size≤w2.heap.size;omega) (fun b hb=>by have:=hso b hb;show b≠w2.heap.size;omega)).b;have OW0:=own_ch1 (w6.setCell ⟨w2.heap.size,1,none⟩ (.string tn)) (1,id,k1,⟨#[]⟩,⟨#[]⟩) 65;rw[show (w6.setCell ⟨w2.heap.size,1,none⟩ (.string tn)).heap.size=w6.heap.size by simp] at OW0;have OW:=Lib.hid OW0;have z6:w6.heap.size<((w6.setCell ⟨w2.heap.size,1,none⟩ (.string tn)).alloc (.cells #[.int .i64 1,.int .i64 id,.string k1,.string ⟨#[]⟩,.string ⟨#[]⟩] 65)).heap.size:=(by simp);clear hb OW0 BAl) | (go_at_call 34;(refine (HPU.out _ B6 al gr I6.out J6.out).mono ?_);rintro _ w7 ⟨rfl,hb⟩;have OW:=Lib.hid (own_keep OW.out (fun x hx=>hb.block x (own_base OW.out x hx).2));have GB:=Lib.hid (grown_b GB.out hb);have z7:=hb.size;clear hb) | (at_builtin;have OWQ:=own_keep OW.out (fun x hx=>(below_al' w7 (.cells #[.int .i64 0,.int .i64 id,.string k2,.string r2,.string ⟨#[]⟩] 65)).block x (own_base OW.out x hx).2);refine wp_appX _ rfl (.tmp 63) (.tmp 67) 34 65 _ _ 5 64 rfl Tryz.underlying34 cg_i cg_i0 cg_i1 cg_i2 rfl (by decide) w6.heap.size (.slice (some ⟨w6.heap.size,0,none⟩) 1 1) (.slice (some ⟨w7.heap.size,0,none⟩) 1 1) 1 1 (cv [(1,id,k1,⟨#[]⟩,⟨#[]⟩)]) (cv [(0,id,k2,r2,⟨#[]⟩)]) rfl OWQ rfl (cs_ch1 w7 (0,id,k2,r2,⟨#[]⟩) _ _ rfl) (cv_one _) (by unfold maxLen;omega) (by omega) (by simp;omega) ?_;intro a8 c8 w8 hown hg8 _;have OW8:=Lib.hid hown;have GB8:=Lib.hid (grown_bel (grown_b GB.out (below_al' w7 (.cells #[.int .i64 0,.int .i64 id,.string k2,.string r2,.string ⟨#[]⟩] 65))) (grown_keep hg8 (fun q hq=>(own_base OWQ q hq).1) (by simp;omega)));clear hown hg8 OWQ))
 have OW8':w8.ownsRow w6.heap.size 65 5 (.slice a8 2 c8) 2 (cv ([(1,id,k1,⟨#[]⟩,⟨#[]⟩),(0,id,k2,r2,⟨#[]⟩)]++(s.take 0).map fun a=>(0,id,keyZ (setT a tn).1.kind (setT a tn).1.name,recZ (setT a tn),⟨#[]⟩))):=OW8.out
 have HOW:=Lib.hid OW8'
 clear OW8' OW8 OW R6 I6 J6 B6 NA FA RS
 go_loopw [13,71] (fun v i wr=>∃ (k:Nat),k≤s.length∧i=.int .i64 k∧wr.ownsRow w6.heap.size 65 5 v (k+2) (cv ([(1,id,k1,⟨#[]⟩,⟨#[]⟩),(0,id,k2,r2,⟨#[]⟩)]++(s.take k).map fun a=>(0,id,keyZ (setT a tn).1.kind (setT a tn).1.name,recZ (setT a tn),⟨#[]⟩)))∧w6.grownBy wr (some w2.heap.size)) (fun _ i _=>s.length - (intOf i).toNat)
 case atStart=>exact⟨0,Nat.zero_le _,rfl,HOW.out,GB8.out⟩
 case round =>
  obtain⟨k,hk,rfl,hown,hg⟩:=hrel
  obtain⟨ra,rc,rfl⟩:=owns_sl hown
  have HO:=Lib.hid hown
  have HG:=Lib.hid hg
  have zg:=hg.size
  clear hown hg
  by_cases hlt:k<s.length
  · have hJw:=HJL.out.keep zg (fun j hj hj2=>HG.out.block j hj2 (fun e=>by have:=Option.some.inj e;omega))
    obtain⟨va',vc',GG,hve,hES,hlst,-⟩:=hJw.es (by rw[List.length_map];omega)
    rw[List.length_map] at hve hES hlst
    injection hve with v1 v2 v3
    subst v1 v3
    clear v2
    obtain⟨b,o,rfl,hb,a1,c1,a2,c2',hmid,-,-,-⟩:=hES.2 k hlt
    have hGk:GG k=toEf s[k]:=by
     have e1:(lst GG s.length)[k]?=(s.map toEf)[k]?:=by rw[hlst]
     unfold lst at e1
     rw[List.getElem?_map,List.getElem?_range hlt,List.getElem?_map,List.getElem?_eq_getElem hlt] at e1
     exact Option.some.inj e1
    obtain⟨g1,g2,g3⟩:=hgo s[k] (List.getElem_mem hlt)
    rw[hGk] at hmid
    unfold toEf at hmid
    rw[g1,g2] at hmid
    simp only[List.length_nil] at hmid
    have htk:s.take (k+1)=s.take k++[s[k]]:=List.take_succ_eq_append_getElem hlt
    generalize s[k]=q at g1 g2 g3 hmid htk
    obtain⟨qe,ql,qg⟩:=q
    simp only at g1 g2 g3 hmid
    subst g1 g2
    have hone2:=vals_one qe (.slice a1 0 c1) (.slice a2 0 c2') rfl rfl
    have hz33:(mid wr b (o+k*33)).size=33:=by rw[hmid];exact vals_size _ _ _
    have j1:(0:Int)≤(k:Int):=by omega
    have j2:(k:Int)<(s.length:Int):=by omega
    have RQ:=row_new wr (qe.vals (.slice a1 0 c1) (.slice a2 0 c2')) 28 (0,0)
    have NQ:=cell_row RQ 29 _ (vals_29 _ _ _)
    have FQ:=(held_n wr (qe.vals (.slice a1 0 c1) (.slice a2 0 c2')) 28 (vals_size _ _ _)).2.2 29
    obtain⟨qt,hqt⟩:∃ qt:En,setT (qe,[],[]) tn=(qt,[],[]):=⟨_,rfl⟩
    have hqt1:({ qe with target:=tn }:En)=qt:=congrArg Prod.fst hqt
    have hqv:(qe.vals (.slice a1 0 c1) (.slice a2 0 c2')).setIfInBounds 29 (.string tn)=qt.vals (.slice a1 0 c1) (.slice a2 0 c2'):=by rw[← hqt1];exact vals_setT _ _ _ _
    have hqs:qt.name.size≤1000:=by rw[← hqt1];show qe.name.size≤1000;omega
    have hmap:((s.take (k+1)).map fun a=>((0,id,keyZ (setT a tn).1.kind (setT a tn).1.name,recZ (setT a tn),⟨#[]⟩):Ch))=((s.take k).map fun a=>((0,id,keyZ (setT a tn).1.kind (setT a tn).1.name,recZ (setT a tn),⟨#[]⟩):Ch))++[(0,id,keyZ qt.kind qt.name,recZ (qt,[],[]),⟨#[]⟩)]:=by
     rw[htk,List.map_append,List.map_cons,List.map_nil,hqt]
    have hrow3:=fun W (b:Below w0.heap.size w0 W) (i1:IS W (.slice a1 0 c1) []) (i2:GS W (.slice a2 0 c2') [])=>ca_put id (qt,[],[]) (.slice a1 0 c1) (.slice a2 0 c2') W (hm.below b) (hT.below b) hqs i1 i2
    unfold putCh ch5 at hrow3
    dsimp only at hrow3
    generalize keyZ qt.kind qt.name=k3 at hrow3 hmap
    generalize recZ (qt,[],[])=r3 at hrow3 hmap
    have HP3:=Lib.hid hrow3
    have HMP:=Lib.hid hmap
    have oneq:=vals_one qt (.slice a1 0 c1) (.slice a2 0 c2') rfl rfl
    have hBr:=Lib.hid (S.out.other HG.out (fun e=>nb e.symm) (by show w0.heap.size≤w2.heap.size;omega) (fun b hb=>by have:=hso b hb;show b≠w2.heap.size;omega)).b
    clear hrow3 hmap hqt hqt1 hqs htk hES hlst hJw g3
    go_wp2_with (first
     | (go_at_call 34;(refine (HP3.out _ (bt hBr.out (below_al' wr _)) (is_nil0 _ _ _) (gs_nil0 _ _ _)).mono ?_);rintro _ w9 ⟨rfl,hb⟩;have B9:=bt (below_al' wr (.cells (qt.vals (.slice a1 0 c1) (.slice a2 0 c2')) 28)) hb;have O9:=Lib.hid (own_keep HO.out (fun x hx=>B9.block x (own_base HO.out x hx).2));have G9:=Lib.hid (grown_b HG.out B9);have z9:=B9.size;clear hb B9)
     | (at_builtin;have OQ:=own_keep O9.out (fun x hx=>(below_al' w9 (.cells #[.int .i64 0,.int .i64 id,.string k3,.string r3,.string ⟨#[]⟩] 65)).block x (own_base O9.out x hx).2);refine wp_appX _ rfl (.tmp 77) (.tmp 81) 34 65 _ _ 5 64 rfl Tryz.underlying34 cg_i cg_i0 cg_i1 cg_i2 rfl (by decide) w6.heap.size (.slice ra (k+2) rc) (.slice (some ⟨w9.heap.size,0,none⟩) 1 1) (k+2) 1 _ (cv [(0,id,k3,r3,⟨#[]⟩)]) rfl OQ rfl (cs_ch1 w9 (0,id,k3,r3,⟨#[]⟩) _ _ rfl) (cv_one _) (by unfold maxLen;omega) (by omega) (by simp;omega) ?_;intro aX cX wX hown hgX _;have OX:=Lib.hid hown;have GX:=Lib.hid (grown_bel (grown_b G9.out (below_al' w9 (.cells #[.int .i64 0,.int .i64 id,.string k3,.string r3,.string ⟨#[]⟩] 65))) (grown_keep hgX (fun q hq=>(own_base OQ q hq).1) (by simp;omega)));clear hown hgX OQ))
    go_roundw
    case rel=>exact⟨k+1,by omega,by go_num,by rw[HMP.out,← List.append_assoc,cv_app];exact OX.out,GX.out⟩
    case measure=>simp [intOf];omega
  · obtain rfl:k=s.length:=by omega
    rw[List.take_of_length_le (Nat.le_refl _)] at HO
    go_wp2_with fail
    go_ret2
    have hS6:=S.out.other HG.out (fun e=>nb e.symm) (by show w0.heap.size≤w2.heap.size;omega) (fun b hb=>by have:=hso b hb;show b≠w2.heap.size;omega)
    refine⟨.slice ra (s.length+2) rc,rfl,?_,hS6,grown_bel G.out (grown_below HG.out zw (Nat.le_trans zw (by omega)))⟩
    have hll:(([(1,id,k1,⟨#[]⟩,⟨#[]⟩),(0,id,k2,r2,⟨#[]⟩)]:List Ch)++s.map fun a=>((0,id,keyZ (setT a tn).1.kind (setT a tn).1.name,recZ (setT a tn),⟨#[]⟩):Ch)).length=s.length+2:=by
     rw[List.length_append,List.length_map];show 2+s.length=s.length+2;omega
    have hc:=chs_of_cells (w:=wr) (v:=.slice ra (s.length+2) rc) (l:=([(1,id,k1,⟨#[]⟩,⟨#[]⟩),(0,id,k2,r2,⟨#[]⟩)]:List Ch)++s.map fun a=>(0,id,keyZ (setT a tn).1.kind (setT a tn).1.name,recZ (setT a tn),⟨#[]⟩)) (by rw[hll];omega) (by rw[hll];exact own_cells HO.out)
    exact hc
end Go.Proofs.YtpldecfgjpmmkaaGreatDoor
end
