/- Contracts of the reference: Split, First, Texts. -/
import Derived.Test.YtnojclchnhmggaaGreatDoorDsA
import Derived.Test.YtnojclchnhmggaaGreatDoorDs
import Derived.Test.YtnojclchnhmggaaGreatDoorKit
import Derived.RegionTactic
import Derived.Laws.OwnMore
import Derived.OwnWalk
import Derived.Test.YtnojclchnhmggaaGreatDoorDsH
import Derived.BigQuiet
import Derived.Deep.QuietTactic
import Derived.IntWalk
section
namespace Go.Proofs.YtnojclchnhmggaaGreatDoor
open Go.RowKit
set_option maxHeartbeats 400000
theorem rds_letter (c:UInt8) (w:World) :
  Calls Tryz.prog 290 #[.int .u8 c.toNat] w fun e w'=>e=.returned (.bool (Ds.up c))∧w=w':=by
 go_enter Tryz.func290,Tryz.ntmps290
 go_wp2
 all_goals (go_ret;exact⟨ret_bool (by rw[Bool.eq_iff_iff];simp [Ds.up];omega),rfl⟩)
namespace Ds
theorem bl_getD (s:ByteArray) (k:Nat) (h:k<s.size):(bl s).getD k 0=s[k]:=by
 rw[List.getD_eq_getElem?_getD,List.getElem?_eq_getElem (by rw[bl_length];exact h),bl_get s k h];rfl
theorem partR_len (st:Bool) (l:List UInt8) (h:l.length<1∨8<l.length):partR st l=false:=by
 unfold partR
 rcases h with h | h
 · rw[decide_eq_false (by omega)];simp
 · rw[decide_eq_false (p:=l.length<=8) (by omega)];simp
theorem partR_head (st:Bool) (l:List UInt8) (h:dg (l.getD 0 0)=true):partR st l=false:=by
 unfold partR;rw[h];simp
theorem partR_rest (st:Bool) (l:List UInt8) (h1:1<=l.length) (h8:l.length<=8) (h:dg (l.getD 0 0)=false):partR st l=rest (okAt st l) (List.range l.length) 0:=by
 unfold partR;rw[h,decide_eq_true h1,decide_eq_true h8];rfl
theorem okAt_val (st:Bool) (l:List UInt8) (j:Nat) (c p:UInt8) (hc:l.getD j 0=c) (hp:l.getD (j - 1) 0=p):okAt st l j=((up c || dg c || (st&&decide (c.toNat=42)))&&!(st&&decide (c.toNat=42)&&decide (0<j)&&decide (p.toNat=42))):=by
 unfold okAt;rw[hc,hp]
theorem okAt_no (l:List UInt8) (j:Nat) (c:UInt8) (hc:l.getD j 0=c):okAt false l j=(up c || dg c):=by
 rw[okAt_val false l j c _ hc rfl];simp
theorem okAt_pl (st:Bool) (l:List UInt8) (j:Nat) (c:UInt8) (hc:l.getD j 0=c) (h:c.toNat≠42):okAt st l j=(up c || dg c):=by
 rw[okAt_val st l j c _ hc rfl,decide_eq_false h];simp
theorem okAt_star (l:List UInt8) (j:Nat) (c p:UInt8) (hc:l.getD j 0=c) (hp:l.getD (j - 1) 0=p) (h:c.toNat=42):okAt true l j=!(decide (0<j)&&decide (p.toNat=42)):=by
 rw[okAt_val true l j c p hc hp,decide_eq_true h];simp
end Ds
theorem rds_part_loop (st:Bool) (s:ByteArray) (w:World) (h1:1<=s.size) (h8:s.size<=8) (hd:Ds.dg (s[0]'h1)=false) (hne:Hid (st=true->(s.toList==[42,42])=false)) :
  Calls Tryz.prog 254 #[.string s,.bool st] w fun e w'=>e=.returned (.bool (Ds.rest (Ds.okAt st (Ds.bl s)) (List.range (Ds.bl s).length) 0))∧w=w':=by
 have e1:(decide ((s.size:Int)<1))=false:=by rw[decide_eq_false_iff_not];omega
 have e2:(decide (8<(s.size:Int)))=false:=by rw[decide_eq_false_iff_not];omega
 have HL:=Lib.hid (Ds.bl_length s)
 have D:=Lib.hid (rfl:Ds.rest (Ds.okAt st (Ds.bl s)) (List.range (Ds.bl s).length) 0=Ds.rest (Ds.okAt st (Ds.bl s)) (List.range (Ds.bl s).length) 0)
 cases st
 · go_enter Tryz.func254,Tryz.ntmps254
   go_wp2_with (go_at_call 259;(with_reducible refine (rds_digit _ _).mono ?_);rintro e w' ⟨rfl,rfl⟩)
   clear e1 e2 hne hd
   go_loopw [5,6] (fun i _ wr=>∃ k:Nat,k<=s.size∧i=.int .i64 k∧Ds.rest (Ds.okAt false (Ds.bl s)) (List.range (Ds.bl s).length) 0=Ds.rest (Ds.okAt false (Ds.bl s)) (List.range (Ds.bl s).length) k∧w=wr) (fun i _ _=>s.size - (intOf i).toNat)
   case atStart=>exact⟨0,by omega,rfl,rfl,rfl⟩
   case round =>
    obtain⟨k,hk,rfl,hq,rfl⟩:=hrel
    have HQ:=Lib.hid hq
    clear hq
    by_cases hlt:k<s.size
    · have hr:=Ds.rest_next (Ds.okAt false (Ds.bl s)) (List.range (Ds.bl s).length) k (by rw[List.length_range,HL.out];exact hlt)
      rw[List.getElem_range,Ds.okAt_no _ _ _ (Ds.bl_getD s k hlt)] at hr
      cases hU:Ds.up s[k] <;> cases hD:Ds.dg s[k]
      all_goals
       rw[hU,hD] at hr
       have HR:=Lib.hid (HQ.out.trans hr)
       clear hr
       go_wp2_with (first | (go_at_call 259;(with_reducible refine (rds_digit _ _).mono ?_);rintro e w' ⟨rfl,rfl⟩) | (go_at_call 290;(with_reducible refine (rds_letter _ _).mono ?_);rintro e w' ⟨rfl,rfl⟩))
       first
       | (go_ret
          exact⟨ret_bool HR.out.symm,rfl⟩)
       | (go_roundw
          case rel=>exact⟨k+1,by omega,by go_num,HR.out,trivial⟩
          case measure=>simp [intOf];omega)
    · have hr:=HQ.out.trans (Ds.rest_end (Ds.okAt false (Ds.bl s)) (List.range (Ds.bl s).length) k (by rw[List.length_range,HL.out];omega))
      have HR:=Lib.hid hr
      clear hr
      obtain rfl:k=s.size:=by omega
      go_wp2_with fail
      go_ret
      exact⟨ret_bool HR.out.symm,rfl⟩
 · have hne':=hne.out rfl
   go_enter Tryz.func254,Tryz.ntmps254
   go_wp2_with (go_at_call 259;(with_reducible refine (rds_digit _ _).mono ?_);rintro e w' ⟨rfl,rfl⟩)
   clear e1 e2 hne hne' hd
   go_loopw [5,6] (fun i _ wr=>∃ k:Nat,k<=s.size∧i=.int .i64 k∧Ds.rest (Ds.okAt true (Ds.bl s)) (List.range (Ds.bl s).length) 0=Ds.rest (Ds.okAt true (Ds.bl s)) (List.range (Ds.bl s).length) k∧w=wr) (fun i _ _=>s.size - (intOf i).toNat)
   case atStart=>exact⟨0,by omega,rfl,rfl,rfl⟩
   case round =>
    obtain⟨k,hk,rfl,hq,rfl⟩:=hrel
    have HQ:=Lib.hid hq
    clear hq
    by_cases hlt:k<s.size
    · have hr:=Ds.rest_next (Ds.okAt true (Ds.bl s)) (List.range (Ds.bl s).length) k (by rw[List.length_range,HL.out];exact hlt)
      rw[List.getElem_range] at hr
      have HR:=Lib.hid (HQ.out.trans hr)
      clear hr
      by_cases h42:s[k].toNat=42
      · have e42:((s[k].toNat:Int)==42)=true:=by simp [h42]
        have hU:Ds.up s[k]=false:=by simp [Ds.up,h42]
        have hD:Ds.dg s[k]=false:=by simp [Ds.dg,h42]
        rcases k with _ | j
        · have hok:=Ds.okAt_star (Ds.bl s) 0 _ _ (Ds.bl_getD s 0 hlt) rfl h42
          have HK:=Lib.hid hok
          clear hok h42
          go_wp2_with (first | (go_at_call 259;(with_reducible refine (rds_digit _ _).mono ?_);rintro e w' ⟨rfl,rfl⟩) | (go_at_call 290;(with_reducible refine (rds_letter _ _).mono ?_);rintro e w' ⟨rfl,rfl⟩))
          go_roundw
          case rel=>exact⟨1,by omega,by go_num,by rw[HR.out,HK.out];simp,trivial⟩
          case measure=>simp [intOf];omega
        · have hok:=Ds.okAt_star (Ds.bl s) (j+1) _ _ (Ds.bl_getD s (j+1) hlt) (Ds.bl_getD s j (by omega)) h42
          have hj:j<s.size:=by omega
          have HK:=Lib.hid hok
          clear hok h42
          by_cases hp:s[j].toNat=42
          · have ep:((s[j].toNat:Int)==42)=true:=by simp [hp]
            have HP:=Lib.hid hp
            clear hp
            go_wp2_with (first | (go_at_call 259;(with_reducible refine (rds_digit _ _).mono ?_);rintro e w' ⟨rfl,rfl⟩) | (go_at_call 290;(with_reducible refine (rds_letter _ _).mono ?_);rintro e w' ⟨rfl,rfl⟩))
            go_ret
            exact⟨ret_bool (by rw[HR.out,HK.out,HP.out];simp),rfl⟩
          · have ep:((s[j].toNat:Int)==42)=false:=by simp;omega
            have HP:=Lib.hid (decide_eq_false hp)
            clear hp
            go_wp2_with (first | (go_at_call 259;(with_reducible refine (rds_digit _ _).mono ?_);rintro e w' ⟨rfl,rfl⟩) | (go_at_call 290;(with_reducible refine (rds_letter _ _).mono ?_);rintro e w' ⟨rfl,rfl⟩))
            go_roundw
            case rel=>exact⟨j+1+1,by omega,by go_num,by rw[HR.out,HK.out,HP.out];simp,trivial⟩
            case measure=>simp [intOf];omega
      · have e42:((s[k].toNat:Int)==42)=false:=by simp;omega
        have hok:=Ds.okAt_pl true (Ds.bl s) k _ (Ds.bl_getD s k hlt) h42
        have HK:=Lib.hid hok
        clear hok h42
        cases hU:Ds.up s[k] <;> cases hD:Ds.dg s[k]
        all_goals
         have HV:=Lib.hid (show Ds.okAt true (Ds.bl s) k=_ by rw[HK.out,hU,hD])
         go_wp2_with (first | (go_at_call 259;(with_reducible refine (rds_digit _ _).mono ?_);rintro e w' ⟨rfl,rfl⟩) | (go_at_call 290;(with_reducible refine (rds_letter _ _).mono ?_);rintro e w' ⟨rfl,rfl⟩))
         first
         | (go_ret
            exact⟨ret_bool (by rw[HR.out,HV.out];simp),rfl⟩)
         | (go_roundw
            case rel=>exact⟨k+1,by omega,by go_num,by rw[HR.out,HV.out];simp,trivial⟩
            case measure=>simp [intOf];omega)
    · have hr:=HQ.out.trans (Ds.rest_end (Ds.okAt true (Ds.bl s)) (List.range (Ds.bl s).length) k (by rw[List.length_range,HL.out];omega))
      have HR:=Lib.hid hr
      clear hr
      obtain rfl:k=s.size:=by omega
      go_wp2_with fail
      go_ret
      exact⟨ret_bool HR.out.symm,rfl⟩
theorem rds_part (st:Bool) (s:ByteArray) (w:World) :
  Calls Tryz.prog 254 #[.string s,.bool st] w fun e w'=>e=.returned (.bool (Ds.partE st (Ds.bl s)))∧w=w':=by
 have hl:=Ds.bl_length s
 by_cases hss:st=true∧s=⟨#[42,42]⟩
 · obtain⟨rfl,rfl⟩:=hss
   have D:=Lib.hid (show Ds.partE true (Ds.bl ⟨#[42,42]⟩)=true by decide)
   clear hl
   go_enter Tryz.func254,Tryz.ntmps254
   go_wp2_with fail
   go_ret
   exact⟨ret_bool D.out.symm,rfl⟩
 have hne:Hid (st=true->(s.toList==[42,42])=false):=Lib.hid fun h=>Ds.bl_beq s [42,42] fun e=>hss ⟨h,e⟩
 have DD:Ds.partE st (Ds.bl s)=Ds.partR st (Ds.bl s):=by
  unfold Ds.partE
  cases st
  · rfl
  · rw[decide_eq_false (fun h=>hss ⟨rfl,(Ds.bl_eq s [42,42]).2 h⟩)];rfl
 by_cases h1:s.size<1
 · have D:=Lib.hid (DD.trans (Ds.partR_len st _ (by omega)))
   have e1:(decide ((s.size:Int)<1))=true:=by rw[decide_eq_true_eq];omega
   clear hl h1 hss DD
   cases st
   all_goals
    first | (have hne':=hne.out rfl) | skip
    go_enter Tryz.func254,Tryz.ntmps254
    go_wp2_with fail
    go_ret
    exact⟨ret_bool D.out.symm,rfl⟩
 by_cases h8:8<s.size
 · have D:=Lib.hid (DD.trans (Ds.partR_len st _ (by omega)))
   have e1:(decide ((s.size:Int)<1))=false:=by rw[decide_eq_false_iff_not];omega
   have e2:(decide (8<(s.size:Int)))=true:=by rw[decide_eq_true_eq];omega
   clear hl h1 hss DD
   cases st
   all_goals
    first | (have hne':=hne.out rfl) | skip
    go_enter Tryz.func254,Tryz.ntmps254
    go_wp2_with fail
    go_ret
    exact⟨ret_bool D.out.symm,rfl⟩
 have hp:0<s.size:=by omega
 cases hd:Ds.dg s[0]
 · have h:=rds_part_loop st s w hp (by omega) hd hne
   rw[DD,Ds.partR_rest st _ (by omega) (by omega) (by rw[Ds.bl_getD s 0 hp];exact hd)]
   exact h
 · have D:=Lib.hid (DD.trans (Ds.partR_head st _ (by rw[Ds.bl_getD s 0 hp];exact hd)))
   have e1:(decide ((s.size:Int)<1))=false:=by rw[decide_eq_false_iff_not];omega
   have e2:(decide (8<(s.size:Int)))=false:=by rw[decide_eq_false_iff_not];omega
   clear hl h1 hss h8 DD
   cases st
   all_goals
    first | (have hne':=hne.out rfl) | skip
    go_enter Tryz.func254,Tryz.ntmps254
    go_wp2_with (go_at_call 259;(with_reducible refine (rds_digit _ _).mono ?_);rintro e w' ⟨rfl,rfl⟩)
    go_ret
    exact⟨ret_bool D.out.symm,rfl⟩
end Go.Proofs.YtnojclchnhmggaaGreatDoor
end
section
namespace Go.Proofs.YtnojclchnhmggaaGreatDoor
open Go.RowKit
set_option maxHeartbeats 400000
namespace Ds
theorem pieces_le (l:List UInt8):(pieces l).length<=l.length+1∧∀ q∈pieces l,q.length<=l.length:=by
 induction l with
 | nil=>simp [pieces]
 | cons c r ih =>
   simp only[pieces]
   split
   · refine⟨by simp;omega,fun q hq=>?_⟩
     rcases List.mem_cons.1 hq with rfl | h
     · simp
     · have:=ih.2 q h;simp;omega
   · cases e:pieces r with
     | nil=>exact absurd e (pieces_ne r)
     | cons p ps =>
       rw[e] at ih
       refine⟨by have:=ih.1;simp at this ⊢;omega,fun q hq=>?_⟩
       rcases List.mem_cons.1 hq with rfl | h
       · have:=ih.2 p (by simp);simp;omega
       · have:=ih.2 q (by simp [h]);simp;omega
theorem bl_append (a b:ByteArray):bl (a++b)=bl a++bl b:=by simp [bl]
theorem bl_one (s:ByteArray) (k:Nat) (h:k<s.size):bl (s.extract k (k+1))=[s[k]]:=by
 unfold bl
 rw[Lib.extract_data,show k+1 - k=1 from by omega]
 rw[show s.data.toList=bl s from rfl]
 rw[List.drop_eq_getElem_cons (by rw[bl_length];exact h),List.take_succ_cons,List.take_zero,bl_get s k h]
theorem take_next (s:ByteArray) (k:Nat) (h:k<s.size):(bl s).take (k+1)=(bl s).take k++[s[k]]:=by
 rw[List.take_succ_eq_append_getElem (by rw[bl_length];exact h),bl_get s k h]
def Got (s:ByteArray) (k:Nat) (qs:List ByteArray) (q:ByteArray):Prop:=qs.map bl++[bl q]=pieces ((bl s).take k)
theorem Got.start (s:ByteArray):Got s 0 [] ⟨#[]⟩:=by unfold Got;rfl
theorem Got.dot {s:ByteArray} {k:Nat} {qs:List ByteArray} {q:ByteArray} (h:Got s k qs q) (hk:k<s.size) (hc:s[k]=46):Got s (k+1) (qs++[q]) ⟨#[]⟩:=by
 unfold Got at *
 rw[take_next s k hk,pieces_snoc,if_pos hc,<-h];simp [bl]
theorem Got.more {s:ByteArray} {k:Nat} {qs:List ByteArray} {q:ByteArray} (h:Got s k qs q) (hk:k<s.size) (hc:s[k]≠46):Got s (k+1) qs (q++s.extract k (k+1)):=by
 unfold Got at *
 rw[take_next s k hk,pieces_snoc,if_neg hc,<-h,bl_append,bl_one s k hk];simp
theorem Got.le {s:ByteArray} {k:Nat} {qs:List ByteArray} {q:ByteArray} (h:Got s k qs q) (hk:k<=s.size):qs.length<=k∧q.size<=k:=by
 unfold Got at h
 have h1:=pieces_le ((bl s).take k)
 have hl:((bl s).take k).length=k:=by rw[List.length_take,bl_length];omega
 rw[<-h,hl] at h1
 refine⟨by have:=h1.1;simp at this;omega,?_⟩
 have:=h1.2 (bl q) (by simp)
 rwa [bl_length] at this
theorem Got.all {s:ByteArray} {qs:List ByteArray} {q:ByteArray} (h:Got s s.size qs q):(qs++[q]).map bl=pieces (bl s):=by
 unfold Got at h
 rw[List.take_of_length_le (by rw[bl_length];exact Nat.le_refl _)] at h
 simpa using h
end Ds
theorem strInfo:(Tryz.prog.info? 9).map (fun i=>(i.zero,i.size,i.bytes))=some (some (.string ⟨#[]⟩),1,16):=by kernel_rfl
theorem owns_last {w:World} {B g cap:Nat} {qs:List ByteArray} {q:ByteArray} (h:w.ownsRow B 9 1 (.slice (some ⟨g,0,none⟩) (qs.length+1) cap) (qs.length+1) ((qs++[q]).map Value.string)):w.cell? ⟨g,qs.length,none⟩=some (.string q):=by
 rw[h.cellAt _ (by omega)];simp
theorem owns_more {w:World} {B g cap:Nat} {qs:List ByteArray} {q r:ByteArray} (h:w.ownsRow B 9 1 (.slice (some ⟨g,0,none⟩) (qs.length+1) cap) (qs.length+1) ((qs++[q]).map Value.string)) :
  (w.setCell ⟨g,qs.length,none⟩ (.string r)).ownsRow B 9 1 (.slice (some ⟨g,0,none⟩) (qs.length+1) cap) (qs.length+1) ((qs++[r]).map Value.string):=by
 have:=(h.stored qs.length (.string r)).1
 simpa [List.set_append] using this
theorem owns_shape {w:World} {B e n:Nat} {v:Value} {xs:List Value} (h:w.ownsRow B e 1 v (n+1) xs):∃ g cap,v=.slice (some ⟨g,0,none⟩) (n+1) cap∧B<=g∧g<w.heap.size∧n+1<=cap:=by
 rcases h.2 with ⟨_,h'⟩ | ⟨g,cap,cur,rfl,hb,hg,hc,_⟩
 · omega
 · exact⟨g,cap,rfl,hb,(Array.getElem?_eq_some_iff.1 hg).1,hc⟩
theorem owns_strs {w:World} {B g cap:Nat} {ps:List ByteArray} (h:w.ownsRow B 9 1 (.slice (some ⟨g,0,none⟩) ps.length cap) ps.length (ps.map Value.string)):Strs w g ps:=fun k hk=>by
 rw[h.cellAt k (by omega)];simp [hk]
theorem rds_parts (s:ByteArray) (w:World) (hs:s.size<=1000) :
  Calls Tryz.prog 115 #[.string s] w fun e w'=>∃ (qs:List ByteArray) (q:ByteArray) (g cap:Nat),(qs++[q]).map Ds.bl=Ds.pieces (Ds.bl s)∧qs.length<=s.size∧w.heap.size<=g∧g<w'.heap.size∧e=.returned (.slice (some ⟨g,0,none⟩) (qs.length+1) cap)∧Strs w' g (qs++[q])∧(∀ o,w'.frozen? ⟨g,o,none⟩=false)∧qs.length+1<=cap∧Below w.heap.size w w':=by
 obtain⟨i0,hi,hz0,hz1,hz2⟩:=info_parts strInfo
 have HI:=Lib.hid hi
 have HZ0:=Lib.hid hz0
 have HZ1:=Lib.hid hz1
 have HZ2:=Lib.hid hz2
 clear hi hz0 hz1 hz2
 go_enter Tryz.func115,Tryz.ntmps115
 go_wp2_with fail
 go_loopw [3,4] (fun v i wr=>∃ (k:Nat) (qs:List ByteArray) (q:ByteArray) (g cap:Nat),k<=s.size∧i=.int .i64 k∧Ds.Got s k qs q∧v=.slice (some ⟨g,0,none⟩) (qs.length+1) cap∧wr.ownsRow w.heap.size 9 1 (.slice (some ⟨g,0,none⟩) (qs.length+1) cap) (qs.length+1) ((qs++[q]).map Value.string)∧Below w.heap.size w wr) (fun _ i _=>s.size - (intOf i).toNat)
 case atStart=>exact⟨0,[],⟨#[]⟩,w.heap.size,1,by omega,rfl,Ds.Got.start s,rfl,World.ownsRow_lit w #[.string ⟨#[]⟩] 1 (Nat.le_refl _) (by unfold maxLen;omega) rfl,by (repeat (first | exact Below.refl _ _ | assumption | (refine Below.drew ?_) | (refine Below.alloc ?_ (by simp) _) | (refine Below.setCell ?_ (by simp) _)))⟩
 case round =>
  obtain⟨k,qs,q,g,cap,hk,rfl,hG,rfl,hown,B⟩:=hrel
  obtain⟨hq1,hq2⟩:=hG.le hk
  have HG:=Lib.hid hG
  clear hG
  by_cases hlt:k<s.size
  · by_cases hc:s[k]=46
    · have ec:((s[k].toNat:Int)==46)=true:=by simp [hc]
      have HC:=Lib.hid hc
      clear hc
      go_wp2_with (at_builtin;refine wpList_append_own _ rfl _ _ 173 rfl w.heap.size 9 i0 (.string ⟨#[]⟩) 1 16 Tryz.underlying173 HI.out HZ0.out HZ1.out HZ2.out rfl (by decide) _ _ _ rfl (hown.alloc _) ⟨wr.heap.size,0,none⟩ 1 1 [.string ⟨#[]⟩] rfl rfl ?c1 ?c2 ?c3 ?c4 ?c5 ?_)
      case c1 =>
       intro j u hj
       match j,hj with
       | 0,hj=>simp at hj;subst hj;simp [Addr.add]
      case c2=>intro u hu;simp at hu;subst hu;rfl
      case c3=>unfold maxLen;omega
      case c4=>omega
      case c5=>have:=B.size;simp;omega
      intro v' w1 hown' hgrow _
      have hown2:w1.ownsRow w.heap.size 9 1 v' ((qs++[q]).length+1) (((qs++[q])++[(⟨#[]⟩:ByteArray)]).map Value.string):=by simpa using hown'
      obtain⟨g',cap',rfl,hg1,hg2,hg3⟩:=owns_shape hown2
      have B2:=(B.alloc B.size (Obj.cells #[Value.string ⟨#[]⟩] 9 (0,0))).grown hgrow (by have:=B.size;simp;omega) (by intro j hj;simp [Value.ownBlock] at hj;subst hj;exact (hown.lt g rfl).1)
      have HO:=Lib.hid hown2
      have HB:=Lib.hid B2
      have hlen:(qs++[q]).length=qs.length+1:=by simp
      have HL:=Lib.hid hlen
      clear hown hown' hown2 hgrow B B2 hlen
      go_wp2_with fail
      go_roundw
      case rel=>exact⟨k+1,qs++[q],⟨#[]⟩,g',cap',by omega,by go_num,HG.out.dot hlt HC.out,rfl,HO.out,HB.out⟩
      case measure=>simp [intOf];omega
    · have ec:((s[k].toNat:Int)==46)=false:=by simp;intro h;exact hc (UInt8.toNat_inj.1 (by rw[show (46:UInt8).toNat=46 from rfl];omega))
      have HC:=Lib.hid hc
      clear hc
      have c1:=owns_last hown
      have f1:=fun o=>hown.frozenAt o
      go_wp2_with fail
      go_region
      have hg:=(hown.lt g rfl).1
      have HO:=Lib.hid (owns_more (r:=q++s.extract k (k+1)) hown).drew
      have HB:=Lib.hid (B.setCell (p:=⟨g,qs.length,none⟩) hg (.string (q++s.extract k (k+1)))).drew
      clear hown B c1 f1
      go_wp2_with fail
      go_roundw
      case rel=>exact⟨k+1,qs,q++s.extract k (k+1),g,cap,by omega,by go_num,HG.out.more hlt HC.out,rfl,HO.out,HB.out⟩
      case measure=>simp [intOf];omega
  · obtain rfl:k=s.size:=by omega
    go_wp2_with fail
    go_ret
    obtain⟨g',cap',e,_,_,hc⟩:=owns_shape hown
    simp only[Value.slice.injEq,true_and] at e
    exact⟨qs,q,g,cap,HG.out.all,hq1,(hown.lt g rfl).1,(hown.lt g rfl).2,rfl,owns_strs (by simpa using hown),fun o=>hown.frozenAt o,by omega,B⟩
end Go.Proofs.YtnojclchnhmggaaGreatDoor
end
section
namespace Go.Proofs.YtnojclchnhmggaaGreatDoor
open Go.RowKit
set_option maxHeartbeats 400000
theorem Strs.drewN {w:World} {b:Nat} {ps:List ByteArray} (h:Strs w b ps) (n:Nat):Strs (w.drewN n) b ps:=h
namespace Ds
theorem validE_len (st:Bool) (s:List UInt8) (h:s.length<1∨31<s.length):validE st s=false:=by
 unfold validE
 rcases h with h | h
 · rw[decide_eq_false (by omega)];simp
 · rw[decide_eq_false (p:=s.length<=31) (by omega)];simp
theorem validE_rest (st:Bool) (s:List UInt8) (h1:1<=s.length) (h2:s.length<=31) (ps:List ByteArray) (h:ps.map bl=pieces s):validE st s=rest (fun q=>partE st (bl q)) ps 0:=by
 unfold validE
 rw[decide_eq_true h1,decide_eq_true h2,<-h,List.all_map];rfl
theorem jn_next (ps:List ByteArray) (k:Nat) (hk:k<ps.length) (h0:0<k):Lib.join ((ps.map bl).take (k+1)) [46]=Lib.join ((ps.map bl).take k) [46]++[46]++bl ps[k]:=by
 rw[List.take_succ_eq_append_getElem (by simpa using hk),join_snoc _ _ (by
  intro e
  rw[List.take_eq_nil_iff] at e
  rcases e with e | e
  · omega
  · rw[List.map_eq_nil_iff] at e;subst e;simp at hk)]
 simp
theorem jn_first (ps:List ByteArray) (hk:0<ps.length):Lib.join ((ps.map bl).take 1) [46]=bl ps[0]:=by
 rw[List.take_succ_eq_append_getElem (by simpa using hk),List.take_zero,List.nil_append,Lib.join_one];simp
theorem piece_len {ps:List ByteArray} {s:List UInt8} (h:ps.map bl=pieces s) (k:Nat) (hk:k<ps.length):(ps[k]).size<=s.length:=by
 have:=(pieces_le s).2 (bl ps[k]) (by rw[<-h];exact List.mem_map_of_mem (List.getElem_mem hk))
 rwa [bl_length] at this
end Ds
theorem rds_valid (st:Bool) (s:ByteArray) (w:World) :
  Calls Tryz.prog 189 #[.string s,.bool st] w fun e w'=>e=.returned (.bool (Ds.validE st (Ds.bl s)))∧Below w.heap.size w w':=by
 have hl:=Ds.bl_length s
 by_cases h1:s.size<1
 · have D:=Lib.hid (Ds.validE_len st (Ds.bl s) (by omega))
   have e1:(decide ((s.size:Int)<1))=true:=by rw[decide_eq_true_eq];omega
   clear hl h1
   go_enter Tryz.func189,Tryz.ntmps189
   go_wp2_with fail
   go_ret
   exact⟨ret_bool D.out.symm,Below.refl _ _⟩
 by_cases h8:31<s.size
 · have D:=Lib.hid (Ds.validE_len st (Ds.bl s) (by omega))
   have e1:(decide ((s.size:Int)<1))=false:=by rw[decide_eq_false_iff_not];omega
   have e2:(decide (31<(s.size:Int)))=true:=by rw[decide_eq_true_eq];omega
   clear hl h1
   go_enter Tryz.func189,Tryz.ntmps189
   go_wp2_with fail
   go_ret
   exact⟨ret_bool D.out.symm,Below.refl _ _⟩
 have e1:(decide ((s.size:Int)<1))=false:=by rw[decide_eq_false_iff_not];omega
 have e2:(decide (31<(s.size:Int)))=false:=by rw[decide_eq_false_iff_not];omega
 have hs:s.size<=1000:=by omega
 have D:=Lib.hid (fun ps h=>Ds.validE_rest st (Ds.bl s) (by omega) (by omega) ps h)
 clear hl h1 h8
 go_enter Tryz.func189,Tryz.ntmps189
 go_wp2_with (go_at_call 115;(with_reducible refine (rds_parts _ _ hs).mono ?_);rintro e w1 ⟨qs,q,g,cap,hp,hql,hg1,hg2,rfl,S,fz,hcap,B⟩;have HP:=Lib.hid (D.out _ hp);clear hp D fz e1 e2)
 go_loopw [6] (fun i wr=>∃ k:Nat,k<=qs.length+1∧i=.int .i64 k∧Ds.validE st (Ds.bl s)=Ds.rest (fun q=>Ds.partE st (Ds.bl q)) (qs++[q]) k∧w1=wr) (fun i _=>qs.length+1 - (intOf i).toNat)
 case atStart=>exact⟨0,by omega,rfl,HP.out,rfl⟩
 case round =>
  obtain⟨k,hk,rfl,hq,rfl⟩:=hrel
  have HQ:=Lib.hid hq
  clear hq
  by_cases hlt:k<qs.length+1
  · have hlt':k<(qs++[q]).length:=by simp;omega
    have hr:=Ds.rest_next (fun q=>Ds.partE st (Ds.bl q)) (qs++[q]) k hlt'
    have hc:=S k hlt'
    generalize (qs++[q])[k]=x at hr hc
    cases hG:Ds.partE st (Ds.bl x)
    · rw[hG] at hr
      have HR:=Lib.hid (HQ.out.trans hr)
      clear hr hlt'
      go_wp2_with (go_at_call 254;(with_reducible refine (rds_part _ _ _).mono ?_);rintro e w' ⟨rfl,rfl⟩)
      go_ret
      exact⟨ret_bool HR.out.symm,B⟩
    · rw[hG] at hr
      have HR:=Lib.hid (HQ.out.trans hr)
      clear hr hlt'
      go_wp2_with (go_at_call 254;(with_reducible refine (rds_part _ _ _).mono ?_);rintro e w' ⟨rfl,rfl⟩)
      go_roundw
      case rel=>exact⟨k+1,by omega,by go_num,HR.out,trivial⟩
      case measure=>simp [intOf];omega
  · have hr:=HQ.out.trans (Ds.rest_end (fun q=>Ds.partE st (Ds.bl q)) (qs++[q]) k (by simp;omega))
    have HR:=Lib.hid hr
    clear hr
    obtain rfl:k=qs.length+1:=by omega
    go_wp2_with fail
    go_ret
    exact⟨ret_bool HR.out.symm,B⟩
theorem rds_Valid (s:ByteArray) (w:World) :
  Calls Tryz.prog 98 #[.string s] w fun e w'=>e=.returned (.bool (Ds.name (Ds.bl s)))∧Below w.heap.size w w':=by
 go_enter Tryz.func98,Tryz.ntmps98
 go_wp2_with (go_at_call 189;(with_reducible refine (rds_valid _ _ _).mono ?_);rintro e w1 ⟨rfl,hb⟩)
 go_ret
 exact⟨ret_bool (Ds.validE_name _),hb⟩
theorem rds_pat (s:ByteArray) (w:World) :
  Calls Tryz.prog 116 #[.string s] w fun e w'=>e=.returned (.bool (Ds.pat (Ds.bl s)))∧Below w.heap.size w w':=by
 go_enter Tryz.func116,Tryz.ntmps116
 go_wp2_with (go_at_call 189;(with_reducible refine (rds_valid _ _ _).mono ?_);rintro e w1 ⟨rfl,hb⟩)
 go_ret
 exact⟨ret_bool (Ds.validE_pat _),hb⟩
theorem rds_join (ps:List ByteArray) (b n c:Nat) (w:World) (hS:Strs w b ps) (hn:n<=ps.length) (hc:n<=c) (hl:(Lib.join (ps.map Ds.bl) [46]).length<=1000) (hp:ps.length<=1000) (hps:Hid (∀ k (h:k<ps.length),ps[k].size<=1000)) :
  Calls Tryz.prog 196 #[.slice (some ⟨b,0,none⟩) n c] w fun e w'=>e=.returned (.string ⟨(Lib.join ((ps.map Ds.bl).take n) [46]).toArray⟩)∧w=w':=by
 have HJ:Hid (∀ k,(Lib.join ((ps.map Ds.bl).take k) [46]).length<=1000):=Lib.hid fun k=>Nat.le_trans (Ds.join_take _ _ k) hl
 clear hl
 go_enter Tryz.func196,Tryz.ntmps196
 go_wp2_with fail
 go_loopw [3,4] (fun s i wr=>∃ (k:Nat) (t:ByteArray),k<=n∧i=.int .i64 k∧s=.string t∧Ds.bl t=Lib.join ((ps.map Ds.bl).take k) [46]∧w=wr) (fun _ i _=>n - (intOf i).toNat)
 case atStart=>exact⟨0,⟨#[]⟩,by omega,rfl,rfl,rfl,rfl⟩
 case round =>
  obtain⟨k,t,hk,rfl,rfl,ht,rfl⟩:=hrel
  have htl:t.size<=1000:=by rw[<-Ds.bl_length,ht];exact HJ.out k
  have HT:=Lib.hid ht
  clear ht
  by_cases hlt:k<n
  · have hlt':k<ps.length:=by omega
    have hcell:=hS k hlt'
    have hpk:=hps.out k hlt'
    by_cases h0:0<k
    · have HN:=Lib.hid (Ds.jn_next ps k hlt' h0)
      go_wp2_with fail
      go_roundw
      case rel=>exact⟨k+1,_,by omega,by go_num,rfl,by rw[HN.out,Ds.bl_append,Ds.bl_append,HT.out];rfl,trivial⟩
      case measure=>simp [intOf];omega
    · obtain rfl:k=0:=by omega
      have HN:=Lib.hid (Ds.jn_first ps hlt')
      go_wp2_with fail
      go_roundw
      case rel=>exact⟨1,_,by omega,by go_num,rfl,by rw[HN.out,Ds.bl_append,HT.out];simp [Lib.join_nil],trivial⟩
      case measure=>simp [intOf];omega
  · obtain rfl:k=n:=by omega
    go_wp2_with fail
    go_ret
    exact⟨ret_str (Ds.bl_inj (by rw[HT.out,Ds.bl_mk])),rfl⟩
theorem rds_group (s:ByteArray) (w:World) :
  Calls Tryz.prog 113 #[.string s] w fun e w'=>e=.returned (.bool (Ds.group (Ds.bl s)))∧Below w.heap.size w w':=by
 have hl:=Ds.bl_length s
 cases hn:Ds.name (Ds.bl s)
 · have D:=Lib.hid (show Ds.group (Ds.bl s)=false by unfold Ds.group;rw[hn];rfl)
   clear hl
   go_enter Tryz.func113,Tryz.ntmps113
   go_wp2_with (go_at_call 98;(with_reducible refine (rds_Valid _ _).mono ?_);rintro e w1 ⟨rfl,hb⟩)
   go_ret
   exact⟨ret_bool D.out.symm,hb⟩
 by_cases h1:22<s.size
 · have D:=Lib.hid (show Ds.group (Ds.bl s)=false by unfold Ds.group;rw[decide_eq_false (p:=(Ds.bl s).length<=22) (by omega)];simp)
   have e1:(decide (22<(s.size:Int)))=true:=by rw[decide_eq_true_eq];omega
   clear hl
   go_enter Tryz.func113,Tryz.ntmps113
   go_wp2_with (go_at_call 98;(with_reducible refine (rds_Valid _ _).mono ?_);rintro e w1 ⟨rfl,hb⟩)
   go_ret
   exact⟨ret_bool D.out.symm,hb⟩
 have e1:(decide (22<(s.size:Int)))=false:=by rw[decide_eq_false_iff_not];omega
 have hs:s.size<=1000:=by omega
 have D:=Lib.hid (fun (ps:List ByteArray) (h:ps.map Ds.bl=Ds.pieces (Ds.bl s))=>show Ds.group (Ds.bl s)=Ds.rest (fun q=>decide (Ds.num (Ds.bl q)=0)) ps 0 by
  unfold Ds.group;rw[decide_eq_true (p:=(Ds.bl s).length<=22) (by omega),hn,<-h,List.all_map];rfl)
 clear hl h1
 go_enter Tryz.func113,Tryz.ntmps113
 go_wp2_with (first
  | (go_at_call 98;(with_reducible refine (rds_Valid _ _).mono ?_);rintro e w0 ⟨rfl,hb⟩)
  | (go_at_call 115;(with_reducible refine (rds_parts _ _ hs).mono ?_);rintro e w1 ⟨qs,q,g,cap,hp,hql,hg1,hg2,rfl,S,fz,hcap,B⟩;have HP:=Lib.hid (D.out _ hp);have B:=bt hb B;clear hp D fz e1 hn hb))
 go_loopw [4] (fun i wr=>∃ k:Nat,k<=qs.length+1∧i=.int .i64 k∧Ds.group (Ds.bl s)=Ds.rest (fun q=>decide (Ds.num (Ds.bl q)=0)) (qs++[q]) k∧w1=wr) (fun i _=>qs.length+1 - (intOf i).toNat)
 case atStart=>exact⟨0,by omega,rfl,HP.out,rfl⟩
 case round =>
  obtain⟨k,hk,rfl,hq,rfl⟩:=hrel
  have HQ:=Lib.hid hq
  clear hq
  by_cases hlt:k<qs.length+1
  · have hlt':k<(qs++[q]).length:=by simp;omega
    have hr:=Ds.rest_next (fun q=>decide (Ds.num (Ds.bl q)=0)) (qs++[q]) k hlt'
    have hc:=S k hlt'
    generalize (qs++[q])[k]=x at hr hc
    by_cases hG:0<Ds.num (Ds.bl x)
    · rw[decide_eq_false (by omega)] at hr
      have HR:=Lib.hid (HQ.out.trans hr)
      have eG:decide (0<(Ds.num (Ds.bl x):Int))=true:=by rw[decide_eq_true_eq];omega
      clear hr hlt'
      go_wp2_with (go_at_call 197;(with_reducible refine (rds_number _ _).mono ?_);rintro e w' ⟨rfl,rfl⟩)
      go_ret
      exact⟨ret_bool HR.out.symm,B⟩
    · rw[decide_eq_true (by omega)] at hr
      have HR:=Lib.hid (HQ.out.trans hr)
      have eG:decide (0<(Ds.num (Ds.bl x):Int))=false:=by rw[decide_eq_false_iff_not];omega
      clear hr hlt'
      go_wp2_with (go_at_call 197;(with_reducible refine (rds_number _ _).mono ?_);rintro e w' ⟨rfl,rfl⟩)
      go_roundw
      case rel=>exact⟨k+1,by omega,by go_num,HR.out,trivial⟩
      case measure=>simp [intOf];omega
  · have hr:=HQ.out.trans (Ds.rest_end (fun q=>decide (Ds.num (Ds.bl q)=0)) (qs++[q]) k (by simp;omega))
    have HR:=Lib.hid hr
    clear hr
    obtain rfl:k=qs.length+1:=by omega
    go_wp2_with fail
    go_ret
    exact⟨ret_bool HR.out.symm,B⟩
end Go.Proofs.YtnojclchnhmggaaGreatDoor
end
section
namespace Go.Proofs.YtnojclchnhmggaaGreatDoor
open Go.RowKit
set_option maxHeartbeats 400000
namespace Ds
def splG (s:List UInt8):List UInt8:=if gen s then front s else []
def splN (s:List UInt8):Nat:=if gen s then num (last s) else 0
theorem spl_yes (s:List UInt8) (h1:num (last s)≠0) (h2:group (front s)=true):gen s=true∧splG s=front s∧splN s=num (last s):=by
 have:gen s=true:=by unfold gen;rw[h2];simpa using h1
 exact⟨this,by unfold splG;rw[if_pos this],by unfold splN;rw[if_pos this]⟩
theorem spl_no (s:List UInt8) (h:num (last s)=0∨group (front s)=false):gen s=false∧splG s=[]∧splN s=0:=by
 have:gen s=false:=by
  unfold gen
  rcases h with h | h <;> simp [h]
 exact⟨this,by unfold splG;rw[this];rfl,by unfold splN;rw[this];rfl⟩
theorem front_of {qs:List ByteArray} {q:ByteArray} {s:List UInt8} (h:(qs++[q]).map bl=pieces s):front s=Lib.join (qs.map bl) [46]∧last s=bl q:=by
 unfold front last
 rw[<-h];simp
theorem take_qs {qs:List ByteArray} {q:ByteArray} {s:List UInt8} (h:(qs++[q]).map bl=pieces s):Lib.join (((qs++[q]).map bl).take qs.length) [46]=front s:=by
 rw[(front_of h).1];simp
theorem joined_len {ps:List ByteArray} {s:List UInt8} (h:ps.map bl=pieces s):(Lib.join (ps.map bl) [46]).length=s.length:=by
 rw[h,join_pieces]
end Ds
theorem rds_split (s:ByteArray) (w:World) (hs:s.size<=60) :
  Calls Tryz.prog 109 #[.string s] w fun e w'=>e=.returned (.tuple #[.string ⟨(Ds.splG (Ds.bl s)).toArray⟩,.int .i64 (Ds.splN (Ds.bl s)),.bool (Ds.gen (Ds.bl s))])∧Below w.heap.size w w':=by
 have hs':s.size<=1000:=by omega
 go_enter Tryz.func109,Tryz.ntmps109
 go_wp2_with (go_at_call 115;(with_reducible refine (rds_parts _ _ hs').mono ?_);rintro e w1 ⟨qs,q,g,cap,hp,hql,hg1,hg2,rfl,S,fz,hcap,B⟩;have HP:=Lib.hid hp;clear hp fz)
 have hjl:=Ds.joined_len HP.out
 rw[Ds.bl_length] at hjl
 have hjl':(Lib.join ((qs++[q]).map Ds.bl) [46]).length<=1000:=by omega
 have hpl:=Lib.hid (fun k (h:k<(qs++[q]).length)=>Nat.le_trans (Ds.piece_len HP.out k h) (by rw[Ds.bl_length];exact hs'))
 have hn1:qs.length<=(qs++[q]).length:=by simp
 have hn2:qs.length<=cap:=by omega
 have hn3:(qs++[q]).length<=1000:=by simp;omega
 have cq:w1.cell? ⟨g,qs.length,none⟩=some (.string q):=by
  have:=S qs.length (by simp)
  rw[this];simp
 have HF:=Lib.hid (Ds.take_qs HP.out)
 have HL:=Lib.hid (Ds.front_of HP.out).2
 have s1:IntKind.i64.wrap (qs.length:Int)=qs.length:=IntWalk.i64_in _ (by omega)
 have s2:(0:Int)<=qs.length:=by omega
 have s3:(qs.length:Int)<=cap:=by omega
 have s4:(qs.length:Int)<qs.length+1:=by omega
 have s5:((qs.length:Int)).toNat=qs.length:=by omega
 clear hjl
 go_quiet ((first | (go_at_call 196;exact Calls.quiet_of_same ((rds_join (qs++[q]) g qs.length cap _ (S.drewN _) hn1 hn2 hjl' hn3 hpl).mono fun _ _ ⟨a,b⟩=>⟨a,b.symm⟩)) | (go_at_call 197;exact Calls.quiet_of_same ((rds_number q _).mono fun _ _ ⟨a,b⟩=>⟨a,b.symm⟩))))
 rw[HF.out]
 generalize hF:(⟨(Ds.front (Ds.bl s)).toArray⟩:ByteArray)=fr
 have HB:=Lib.hid (show Ds.bl fr=Ds.front (Ds.bl s) by rw[<-hF,Ds.bl_mk])
 have HFR:=Lib.hid hF
 clear hF s1 s2 s3 s4 s5 cq S
 have B2:=Lib.hid (below_drewN B nq)
 by_cases hn:Ds.num (Ds.bl q)=0
 · have e1:((Ds.num (Ds.bl q):Int)==0)=true:=by simp [hn]
   have D:=Lib.hid (Ds.spl_no (Ds.bl s) (.inl (by rw[HL.out];exact hn)))
   clear hn
   go_wp2_with fail
   go_ret3
   exact⟨by rw[D.out.1,D.out.2.1,D.out.2.2];rfl,B2.out⟩
 · have e1:((Ds.num (Ds.bl q):Int)==0)=false:=by simp;omega
   have HN:=Lib.hid (show Ds.num (Ds.last (Ds.bl s))≠0 by rw[HL.out];exact hn)
   clear hn
   cases hg:Ds.group (Ds.bl fr)
   · have D:=Lib.hid (Ds.spl_no (Ds.bl s) (.inr (by rw[<-HB.out];exact hg)))
     go_wp2_with (go_at_call 113;(with_reducible refine (rds_group _ _).mono ?_);rintro e w2 ⟨rfl,hb⟩)
     go_ret3
     exact⟨by rw[D.out.1,D.out.2.1,D.out.2.2];rfl,bt B2.out hb⟩
   · have D:=Lib.hid (Ds.spl_yes (Ds.bl s) HN.out (by rw[<-HB.out];exact hg))
     go_wp2_with (go_at_call 113;(with_reducible refine (rds_group _ _).mono ?_);rintro e w2 ⟨rfl,hb⟩)
     go_ret3
     exact⟨by rw[D.out.1,D.out.2.1,D.out.2.2,HL.out,HFR.out];rfl,bt B2.out hb⟩
namespace Ds
end Ds
end Go.Proofs.YtnojclchnhmggaaGreatDoor
end
