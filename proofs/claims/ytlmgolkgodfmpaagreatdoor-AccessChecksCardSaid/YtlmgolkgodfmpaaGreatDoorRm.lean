/- Several texts in one: Ay DsX DsY Rl Rm. -/
import Derived.Test.YtlmgolkgodfmpaaGreatDoorAcA
import Derived.Test.YtlmgolkgodfmpaaGreatDoorDsW
import Derived.OwnWalk
import Derived.Laws.OwnMore
import Derived.Test.YtlmgolkgodfmpaaGreatDoorTbl
import Derived.Deep.RegionHeld3
import Derived.IntWalk
import Derived.Test.YtlmgolkgodfmpaaGreatDoorAcD
import Derived.Test.YtlmgolkgodfmpaaGreatDoorRv
section
/- Access in plain words: a grant of one's own; the level as the reference finds it. No program in sight. -/
namespace Go.Proofs.YtlmgolkgodfmpaaGreatDoor
set_option maxHeartbeats 1600000
set_option maxRecDepth 8000
theorem grs_at (l:List Gr) (h:Vp.grs l=true) (i:Nat) (hi:i<l.length):Vp.word (Ds.bl l[i].1)=true∧0≤l[i].2.2∧l[i].2.2≤3∧Vp.gk l[i] ∉ (l.take i).map Vp.gk:=by
 unfold Vp.grs at h
 have:=rest_all h i hi
 unfold Vp.grAt at this
 rw[List.getElem?_eq_getElem hi] at this
 simp only[Bool.and_eq_true,Bool.not_eq_true'] at this
 obtain⟨h1,h2,h3⟩:=this
 have r:=rng_mem _ _ _ h2 l[i].2.2 (by simp)
 exact⟨h1,r.1,r.2,among_no _ _ h3⟩
theorem gmax_app (c:Gr→Bool):∀ (l m:List Gr) (a:Int),gmax c (l++m) a=gmax c m (gmax c l a)
 | [],_,_=>rfl
 | g::l,m,a=>by rw[List.cons_append,gmax,gmax_app c l m,gmax]
theorem gmax_none (c:Gr→Bool):∀ (l:List Gr) (a:Int),l.any c=false→gmax c l a=a
 | [],_,_=>rfl
 | g::l,a,h=>by
   rw[List.any_cons,Bool.or_eq_false_iff] at h
   rw[gmax,h.1,gmax_none c l _ h.2];rfl
theorem gmax_ge (c:Gr→Bool):∀ (l:List Gr) (a:Int),a≤gmax c l a
 | [],_=>Int.le_refl _
 | g::l,a=>by
   rw[gmax]
   have:=gmax_ge c l (if c g then max a g.2.2 else a)
   split at this <;> split <;> first | omega | contradiction
theorem isU_gk {u:ByteArray} {g:Gr} (h:isU u g=true):Vp.gk g=(u,false):=by
 unfold isU at h
 simp only[Bool.and_eq_true,Bool.not_eq_true',decide_eq_true_eq] at h
 unfold Vp.gk;rw[h.1,h.2]
theorem own_only (l:List Gr) (h:Vp.grs l=true) (u:ByteArray) (k:Nat) (hk:k<l.length) (hu:isU u l[k]=true):(l.take k).any (isU u)=false∧(l.drop (k+1)).any (isU u)=false:=by
 have e:=isU_gk hu
 constructor
 · rw[List.any_eq_false]
   intro x hx hx2
   exact (grs_at l h k hk).2.2.2 (by rw[e,← isU_gk hx2];exact List.mem_map_of_mem hx)
 · rw[List.any_eq_false]
   intro x hx hx2
   obtain⟨j,hj,rfl⟩:=List.mem_iff_getElem.1 hx
   rw[List.length_drop] at hj
   rw[List.getElem_drop] at hx2
   refine (grs_at l h (k+1+j) (by omega)).2.2.2 ?_
   rw[isU_gk hx2,← e]
   refine List.mem_map_of_mem ?_
   exact List.mem_iff_getElem.2 ⟨k,by rw[List.length_take];omega,by rw[List.getElem_take]⟩
theorem gmax_own (l:List Gr) (h:Vp.grs l=true) (u:ByteArray) (k:Nat) (hk:k<l.length) (hu:isU u l[k]=true):gmax (isU u) l 0=l[k].2.2:=by
 obtain⟨h1,h2⟩:=own_only l h u k hk hu
 have e:l=l.take k++(l[k]::l.drop (k+1)):=by rw[List.getElem_cons_drop,List.take_append_drop]
 have h0:=(grs_at l h k hk).2.1
 generalize l[k]=g at e hu h0 ⊢
 rw[e,gmax_app,gmax_none _ _ _ h1,gmax,if_pos hu,gmax_none _ _ _ h2]
 omega
theorem okQ_grs (x:Ef) (h:okQ x=true):Vp.grs x.gs=true:=by
 unfold okQ Vp.prof at h
 simp only[Bool.and_eq_true] at h
 exact h.2.1.1
theorem hits_ok {n:List UInt8} {x:Ef} (h:hits n x=true):x.e.kind=4∧okQ x=true∧Ds.match_ (Ds.bl x.e.name) n=true:=by
 unfold hits at h
 simp only[Bool.and_eq_true,decide_eq_true_eq] at h
 exact⟨h.1,h.2.1,h.2.2⟩
theorem best_hit {n:List UInt8} {l:List Ef} {x:Ef} (h:best n l=some x):x∈l∧hits n x=true:=by
 rcases best_mem n l none x h with h | h
 · cases h
 · exact h
theorem plvl_own (x:Ef) (hx:okQ x=true) (u:ByteArray) (gl:List ByteArray) (h3:(decide (u≠⟨#[]⟩)&&decide (x.e.owner=u))=false) (k:Nat) (hk:k<x.gs.length) (hu:isU u x.gs[k]=true):plvl x u gl=x.gs[k].2.2:=by
 unfold plvl
 rw[if_neg (by rw[h3];simp),if_pos (List.any_eq_true.2 ⟨x.gs[k],List.getElem_mem hk,hu⟩)]
 exact gmax_own x.gs (okQ_grs x hx) u k hk hu
theorem gmax_start (c:Gr→Bool):∀ (l:List Gr),(∀ g∈l,0≤g.2.2)→l.any c=true→gmax c l (-1)=gmax c l 0
 | [],_,h=>by simp at h
 | g::l,h0,h=>by
   rw[gmax,gmax]
   have:=h0 g (by simp)
   cases hc:c g
   · rw[List.any_cons,hc,Bool.false_or] at h
     exact gmax_start c l (fun x hx=>h0 x (by simp [hx])) h
   · rw[if_pos rfl,if_pos rfl];congr 1;omega
theorem grs_pos (l:List Gr) (h:Vp.grs l=true):∀ g∈l,0≤g.2.2:=fun g hg=>by
 obtain⟨i,hi,rfl⟩:=List.mem_iff_getElem.1 hg
 exact (grs_at l h i hi).2.1
theorem plvl_ref (x:Ef) (hx:okQ x=true) (u:ByteArray) (gl:List ByteArray) (h3:(decide (u≠⟨#[]⟩)&&decide (x.e.owner=u))=false) (h4:x.gs.any (isU u)=false) :
  plvl x u gl=if 0≤gmax (isG gl) x.gs (-1) then gmax (isG gl) x.gs (-1) else x.e.lev:=by
 unfold plvl
 rw[if_neg (by rw[h3];simp),if_neg (by rw[h4];simp)]
 cases h5:x.gs.any (isG gl)
 · rw[gmax_none _ _ (-1) h5,if_neg (by simp),if_neg (by omega)]
 · have h0:=grs_pos _ (okQ_grs x hx)
   rw[gmax_start _ _ h0 h5,if_pos rfl,if_pos (gmax_ge _ _ _)]
end Go.Proofs.YtlmgolkgodfmpaaGreatDoor
end
section
/- Contracts of the reference: partMatch, Match. -/
namespace Go.Proofs.YtlmgolkgodfmpaaGreatDoor
open Go.RowKit
set_option maxHeartbeats 800000
set_option maxRecDepth 4000
def BI (w:World) (g n:Nat) (F:Nat→Bool):Prop:=(∀ k,k<n→w.cell? ⟨g,k,none⟩=some (.bool (F k)))∧(∀ o,w.frozen? ⟨g,o,none⟩=false)
theorem BI.lt {w:World} {g n:Nat} {F:Nat→Bool} (h:BI w g n F) (hn:0<n):g<w.heap.size:=block_lt_of_cell (h.1 0 hn)
theorem BI.below {w w':World} {g n:Nat} {F:Nat→Bool} (h:BI w g n F) (hb:Below w.heap.size w w') (hn:0<n):BI w' g n F :=
 ⟨fun k hk=>below_cell hb (h.1 k hk),fun o=>by rw[(bcell hb).2 g o (h.lt hn)];exact h.2 o⟩
theorem BI.drew {w:World} {g n:Nat} {F:Nat→Bool} (h:BI w g n F):BI w.drew g n F:=h
theorem BI.drewN {w:World} {g n:Nat} {F:Nat→Bool} (h:BI w g n F) (m:Nat):BI (w.drewN m) g n F:=h
theorem BI.grown {w w':World} {g n:Nat} {F:Nat→Bool} (h:BI w g n F) (hg:w.grownBy w' none) (hn:0<n):BI w' g n F:=by
 have hb:=hg.block g (h.lt hn) (by simp)
 refine⟨fun k hk=>?_,fun o=>?_⟩
 · rw[World.cell?_of_block (a:=⟨g,k,none⟩) hb];exact h.1 k hk
 · rw[World.frozen?_of_block (a:=⟨g,o,none⟩) hb];exact h.2 o
theorem BI.set {w:World} {g n:Nat} {F:Nat→Bool} (h:BI w g n F) (c:Nat) (hc:c<n) (v:Bool):BI (w.setCell ⟨g,c,none⟩ (.bool v)) g n (fun k=>if k=c then v else F k):=by
 refine⟨fun k hk=>?_,fun o=>by have:=h.2 o;simpa using this⟩
 have h1:=h.1 k hk
 have h0:=h.1 c hc
 by_cases e:k=c
 · subst e;simp [go_sem,h0]
 · show _=some (Value.bool (if k=c then v else F k))
   rw[if_neg e,← h1]
   have e':c≠k:=fun h=>e h.symm
   have e'':(c==k)=false:=by simpa using e'
   simp [go_sem]
theorem BI.other {w:World} {g n:Nat} {F:Nat→Bool} (h:BI w g n F) (g2 c:Nat) (hne:g≠g2) (v:Value):BI (w.setCell ⟨g2,c,none⟩ v) g n F:=by
 refine⟨fun k hk=>?_,fun o=>by have:=h.2 o;simpa using this⟩
 rw[← h.1 k hk]
 have e':(g2==g)=false:=by simpa using fun h=>hne h.symm
 simp [go_sem]
theorem BI.made {w:World} {B e g n:Nat} (h:w.ownsRow B e 1 (.slice (some ⟨g,0,none⟩) n n) n (madeCells (Value.bool false).cells (n*1)).toList):BI w g n (fun _=>false):=by
 refine⟨fun k hk=>?_,fun o=>h.frozenAt o⟩
 rw[h.cellAt k (by omega)]
 show (madeCells #[Value.bool false] (n*1)).toList[k]?=_
 rw[toList_madeCells_one,List.getElem?_replicate,if_pos (by omega)]
theorem Ds.ne42 (c:UInt8) (h:¬ c.toNat=42):decide (c=42)=false:=decide_eq_false fun e=>h (by rw[e];rfl)
theorem Ds.beq_u8 (c d:UInt8):((c.toNat:Int)==d.toNat)=decide (c=d):=by
 rw[Bool.eq_iff_iff]
 simp only[beq_iff_eq,decide_eq_true_eq]
 exact⟨fun h=>UInt8.toNat_inj.1 (by omega),fun h=>by rw[h]⟩
theorem boolInfo:(Tryz.prog.info? 4).map (fun i=>(i.zero,i.size,i.bytes))=some (some (.bool false),1,1):=by kernel_rfl
theorem pm_step {w wi:World} {B g g2 n:Nat} {F F2 T:Nat→Bool} {c:Nat} (hA:BI wi g n F) (hB:BI wi g2 n F2) (hne:g≠g2) (hc:c<n) (v:Bool) (hv:v=T c) (hT:∀ c',c'<c→F2 c'=T c') (hb:Below B w wi) (hg:B≤g2) :
  BI (wi.setCell ⟨g2,c,none⟩ (.bool v)) g n F∧BI (wi.setCell ⟨g2,c,none⟩ (.bool v)) g2 n (fun k=>if k=c then v else F2 k)∧(∀ c',c'<c+1→(if c'=c then v else F2 c')=T c')∧Below B w (wi.setCell ⟨g2,c,none⟩ (.bool v)):=by
 refine⟨hA.other g2 c hne _,hB.set c hc v,fun c' h'=>?_,hb.setCell (by simpa using hg) _⟩
 by_cases e:c'=c
 · subst e;rw[if_pos rfl];exact hv
 · rw[if_neg e];exact hT c' (by omega)
theorem rds_partMatch (p s:ByteArray) (w:World) (hp:p.size≤1000) (hs:s.size≤1000) :
  Calls Tryz.prog 265 #[.string p,.string s] w fun e w'=>e=.returned (.bool (Ds.mtQ (Ds.bl p) (Ds.bl s)))∧Below w.heap.size w w':=by
 obtain⟨i0,hi,hz0,hz1,hz2⟩:=info_parts boolInfo
 have HI:=Lib.hid hi
 have HZ0:=Lib.hid hz0
 have HZ1:=Lib.hid hz1
 have HZ2:=Lib.hid hz2
 have HM:Hid (i0.bytes*(s.size+1)≤281474976710656):=Lib.hid (by rw[hz2];omega)
 have hmx:s.size+1≤maxLen:=by unfold maxLen;omega
 have HX:=Lib.hid hmx
 clear hi hz0 hz1 hz2 hmx
 go_enter Tryz.func265,Tryz.ntmps265
 go_wp2_with (at_make;refine wpList_make_full _ rfl _ _ 268 rfl w.heap.size 4 i0 (.bool false) 1 Tryz.underlying268 HI.out HZ0.out HZ1.out _ _ _ _ (s.size+1) rfl rfl (by omega) (by omega) HM.out HX.out (Nat.le_refl _) ?_;intro w1 hown hgrow;have hB0:=BI.made hown;have h0:=hB0.1 0 (by omega);have f0:=hB0.2 0;have B:=(Below.refl w.heap.size w).grown hgrow (Nat.le_refl _) (by simp);have HB:=Lib.hid hB0;clear hown hgrow hB0)
 go_loopw [5,6,7,8] (fun v i _ _ wr=>∃ (r g:Nat) (F:Nat→Bool),r≤p.size∧i=.int .i64 r∧v=.slice (some ⟨g,0,none⟩) (s.size+1) (s.size+1)∧BI wr g (s.size+1) F∧(∀ k,k<s.size+1→F k=Ds.fw (fun c=>decide (c=42)) (fun c d=>decide (c=d)) (Ds.bl p) (Ds.bl s) r k)∧Below w.heap.size w wr) (fun _ i _ _ _=>p.size - (intOf i).toNat)
 case atStart =>
  refine⟨0,w.heap.size,_,by omega,rfl,rfl,HB.out.set 0 (by omega) true,?_,B.setCell (by simp) _⟩
  intro k hk
  rw[Ds.fw_zero _ _ _ _ _ (by rw[Ds.bl_length];omega)]
  by_cases e:k=0 <;> simp [e]
 case round =>
  clear HB h0 f0 B
  obtain⟨r,g,F,hr,rfl,rfl,hA,hF,B⟩:=hrel
  have HF:=Lib.hid hF
  have HA:=Lib.hid hA
  have hgl:=hA.lt (by omega)
  clear hF hA
  by_cases hlt:r<p.size
  · have hrl:r<(Ds.bl p).length:=by rw[Ds.bl_length];exact hlt
    have hpr:=Ds.bl_get p r hlt
    have HR:=Lib.hid hrl
    have HPR:=Lib.hid hpr
    clear hrl hpr
    obtain⟨wo,hwo⟩:∃ wo:World,wo=wr:=⟨_,rfl⟩
    subst hwo
    go_wp2_with (at_make;refine wpList_make_full _ rfl _ _ 268 rfl w.heap.size 4 i0 (.bool false) 1 Tryz.underlying268 HI.out HZ0.out HZ1.out _ _ _ _ (s.size+1) rfl rfl (by omega) (by omega) HM.out HX.out B.size ?_;intro w1 hown hgrow;have hB0:=Lib.hid (BI.made hown);have hA2:=Lib.hid (HA.out.grown hgrow (by omega));have B2:=B.grown hgrow B.size (by simp);clear hown hgrow)
    go_loopw [8] (fun k wi=>∃ (c:Nat) (F2:Nat→Bool),c≤s.size+1∧k=.int .i64 c∧BI wi g (s.size+1) F∧BI wi wo.heap.size (s.size+1) F2∧(∀ c',c'<c→F2 c'=Ds.fw (fun c=>decide (c=42)) (fun c d=>decide (c=d)) (Ds.bl p) (Ds.bl s) (r+1) c')∧Below w.heap.size w wi) (fun k _=>s.size+1 - (intOf k).toNat)
    case atStart=>exact⟨0,_,by omega,rfl,hA2.out,hB0.out,by intro c' h;omega,B2⟩
    case round =>
     have hB1:=B.size
     clear hB0 hA2 B2 B HA
     obtain⟨c,F2,hc,rfl,hA,hC,hG,B⟩:=hrel
     have HG:=Lib.hid hG
     clear hG
     have hne:g≠wo.heap.size:=by omega
     have HS:=Lib.hid (fun (v:Bool) (hcs:c<s.size+1) hv=>pm_step hA hC hne hcs v hv HG.out B hB1)
     have fz:=hC.2 c
     by_cases hcl:c<s.size+1
     · have cz:=hC.1 c hcl
       by_cases h42:p[r].toNat=42
       · have e42:((p[r].toNat:Int)==42)=true:=by simp [h42]
         have hst:decide ((Ds.bl p)[r]'HR.out=42)=true:=by rw[← HPR.out];exact decide_eq_true (UInt8.toNat_inj.1 h42)
         have hT:=Ds.fw_star (fun c=>decide (c=42)) (fun c d=>decide (c=d)) (Ds.bl p) (Ds.bl s) r c HR.out (by rw[Ds.bl_length];omega) hst
         rw[← HF.out c hcl] at hT
         have HT:=Lib.hid hT
         have hcf:=hA.1 c hcl
         clear hT h42 hst
         cases hv:F c
         · rw[hv] at hcf
           have HV:=Lib.hid hv
           rcases c with _ | j
           · clear hv
             go_wp2_with fail
             go_roundw
             case rel=>
              have Z:=HS.out false hcl (by rw[HT.out,HV.out];simp)
              exact⟨1,_,by omega,by go_num,Z.1,Z.2.1,Z.2.2.1,Z.2.2.2⟩
             case measure=>simp [intOf]
           · have hcj:=hC.1 j (by omega)
             have HJ:=Lib.hid (HG.out j (by omega))
             clear hv
             go_wp2_with fail
             go_roundw
             case rel=>
              have Z:=HS.out (F2 j) hcl (by rw[HT.out,HV.out,HJ.out];simp)
              exact⟨j+1+1,_,by omega,by go_num,Z.1,Z.2.1,Z.2.2.1,Z.2.2.2⟩
             case measure=>simp [intOf];omega
         · rw[hv] at hcf
           have HV:=Lib.hid hv
           clear hv
           go_wp2_with fail
           go_roundw
           case rel=>
            have Z:=HS.out true hcl (by rw[HT.out,HV.out];simp)
            exact⟨c+1,_,by omega,by go_num,Z.1,Z.2.1,Z.2.2.1,Z.2.2.2⟩
           case measure=>simp [intOf];omega
       · have e42:((p[r].toNat:Int)==42)=false:=by simp;omega
         have hst:decide ((Ds.bl p)[r]'HR.out=42)=false:=by
          rw[← HPR.out];exact Ds.ne42 _ h42
         rcases c with _ | j
         · have HT:=Lib.hid (Ds.fw_one0 (fun c=>decide (c=42)) (fun c d=>decide (c=d)) (Ds.bl p) (Ds.bl s) r HR.out hst)
           clear h42 hst
           go_wp2_with fail
           go_region
           go_wp2_with fail
           go_roundw
           case rel=>
            have Z:=HS.out false hcl (by rw[HT.out])
            exact⟨1,_,by omega,by go_num,Z.1.drew,Z.2.1.drew,Z.2.2.1,Z.2.2.2.drew⟩
           case measure=>simp [intOf]
         · have hjs:j<s.size:=by omega
           have hjl:j<(Ds.bl s).length:=by rw[Ds.bl_length];exact hjs
           have hT:=Ds.fw_one (fun c=>decide (c=42)) (fun c d=>decide (c=d)) (Ds.bl p) (Ds.bl s) r j HR.out hjl hst
           rw[← HF.out j (by omega),← HPR.out,← Ds.bl_get s j hjs] at hT
           have HT:=Lib.hid hT
           have hcj:=hA.1 j (by omega)
           clear h42 hst hT hjl
           cases hv:F j
           · rw[hv] at hcj
             have HV:=Lib.hid hv
             clear hv
             go_wp2_with fail
             go_region
             go_wp2_with fail
             go_roundw
             case rel=>
              have Z:=HS.out false hcl (by rw[HT.out,HV.out];simp)
              exact⟨j+1+1,_,by omega,by go_num,Z.1.drew,Z.2.1.drew,Z.2.2.1,Z.2.2.2.drew⟩
             case measure=>simp [intOf];omega
           · rw[hv] at hcj
             have HV:=Lib.hid hv
             clear hv
             have HE:=Lib.hid (Ds.beq_u8 p[r] s[j])
             go_wp2_with fail
             go_region
             go_wp2_with fail
             go_roundw
             case rel=>
              have Z:=HS.out ((p[r].toNat:Int)==s[j].toNat) hcl (by rw[HT.out,HV.out,HE.out,Bool.true_and];exact decide_eq_decide.2 Iff.rfl)
              exact⟨j+1+1,_,by omega,by go_num,Z.1.drew,Z.2.1.drew,Z.2.2.1,Z.2.2.2.drew⟩
             case measure=>simp [intOf];omega
     · obtain rfl:c=s.size+1:=by omega
       have HC:=Lib.hid hC
       clear fz hA hC
       go_wp2_with fail
       go_roundw
       case rel=>exact⟨r+1,wo.heap.size,F2,by omega,by go_num,rfl,HC.out,HG.out,B⟩
       case measure=>simp [intOf];omega
  · obtain rfl:r=p.size:=by omega
    have hcl:=HA.out.1 s.size (by omega)
    have HV:=Lib.hid (HF.out s.size (by omega))
    go_wp2_with fail
    go_ret
    refine⟨ret_bool ?_,B⟩
    rw[HV.out]
    have:=Ds.fw_all (fun c:UInt8=>decide (c=42)) (fun c d=>decide (c=d)) (Ds.bl p) (Ds.bl s)
    rw[Ds.bl_length,Ds.bl_length] at this
    exact this
end Go.Proofs.YtlmgolkgodfmpaaGreatDoor
end
section
/- Contracts of the reference: Match. -/
namespace Go.Proofs.YtlmgolkgodfmpaaGreatDoor
open Go.RowKit
set_option maxHeartbeats 2000000
set_option maxRecDepth 4000
theorem rds_parts' (s:ByteArray) (w:World) (hs:s.size≤1000) :
  Calls Tryz.prog 57 #[.string s] w fun e w'=>∃ (ps:List ByteArray) (g cap:Nat),ps.map Ds.bl=Ds.pieces (Ds.bl s)∧ps.length≤s.size+1∧w.heap.size≤g∧g<w'.heap.size∧e=.returned (.slice (some ⟨g,0,none⟩) ps.length cap)∧Strs w' g ps∧ps.length≤cap∧Below w.heap.size w w' :=
 (rds_parts s w hs).mono fun _ _ ⟨qs,q,g,cap,h1,h2,h3,h4,h5,h6,_,h8,h9⟩=>⟨qs++[q],g,cap,h1,by simp;omega,h3,h4,by simpa using h5,h6,by simpa using h8,h9⟩
abbrev starP (q:List UInt8):Bool:=decide (q=[42,42])
def KJ (W:World) (ba bb:Nat) (ps ns:List ByteArray) (g g2 n c:Nat) (F F2:Nat→Bool) (w:World):Prop :=
 Strs w ba ps∧Strs w bb ns∧BI w g n F∧(∃ v,BI w g2 n (fun k=>if k=c then v else F2 k))∧Below W.heap.size W w
theorem KJ.start {W w:World} {ba bb:Nat} {ps ns:List ByteArray} {g g2 n c:Nat} {F F2:Nat→Bool} (h1:Strs w ba ps) (h2:Strs w bb ns) (h3:BI w g n F) (h4:BI w g2 n F2) (h5:Below W.heap.size W w):KJ W ba bb ps ns g g2 n c F F2 w.drew :=
 ⟨h1,h2,h3,⟨F2 c,⟨fun k hk=>by
  rw[show (w.drew).cell? ⟨g2,k,none⟩=w.cell? ⟨g2,k,none⟩ from rfl,h4.1 k hk]
  show _=some (Value.bool (if k=c then F2 c else F2 k))
  by_cases e:k=c
  · rw[if_pos e,e]
  · rw[if_neg e],h4.2⟩⟩,h5.drew⟩
def SKP (W:World) (ba bb:Nat) (ps ns:List ByteArray) (g g2 n c:Nat) (F F2:Nat→Bool) (r j:Nat) (x y:ByteArray) (w:World):Prop :=
 w.cell? ⟨g,j,none⟩=some (.bool true)∧w.cell? ⟨ba,r,none⟩=some (.string x)∧w.cell? ⟨bb,j,none⟩=some (.string y)∧w.cell? ⟨g2,c,none⟩=some (.bool (bvc w g2 c))∧(∀ o,w.frozen? ⟨g2,o,none⟩=false)∧KJ W ba bb ps ns g g2 n c F F2 w
theorem SKP.call {W w w2:World} {ba bb:Nat} {ps ns:List ByteArray} {g g2 n c:Nat} {F F2:Nat→Bool} {r j:Nat} {x y:ByteArray} (hc:c<n) (hb:Below w.heap.size w w2) (h:SKP W ba bb ps ns g g2 n c F F2 r j x y w):SKP W ba bb ps ns g g2 n c F F2 r j x y w2:=by
 obtain⟨h1,h2,h3,h4,h5,k1,k2,k3,⟨v,k4⟩,k5⟩:=h
 have k4':=k4.below hb (by omega)
 exact⟨below_cell hb h1,below_cell hb h2,below_cell hb h3,bvc_of (below_cell hb h4),k4'.2,k1.below hb,k2.below hb,k3.below hb (by omega),⟨v,k4'⟩,bt k5 hb⟩
theorem Strs.other {w:World} {b:Nat} {ps:List ByteArray} (h:Strs w b ps) (g c:Nat) (hne:b≠g) (v:Value):Strs (w.setCell ⟨g,c,none⟩ v) b ps:=fun k hk=>by
 rw[← h k hk]
 have e':(g==b)=false:=by simpa using fun h=>hne h.symm
 simp [go_sem]
theorem KJ.set {W w:World} {ba bb:Nat} {ps ns:List ByteArray} {g g2 n c:Nat} {F F2:Nat→Bool} (hc:c<n) (ha:ba≠g2) (hb:bb≠g2) (hg:g≠g2) (hW:W.heap.size≤g2) (u:Bool) (h:KJ W ba bb ps ns g g2 n c F F2 w):BI (w.setCell ⟨g2,c,none⟩ (.bool u)) g n F∧BI (w.setCell ⟨g2,c,none⟩ (.bool u)) g2 n (fun k=>if k=c then u else F2 k)∧Below W.heap.size W (w.setCell ⟨g2,c,none⟩ (.bool u))∧KJ W ba bb ps ns g g2 n c F F2 (w.setCell ⟨g2,c,none⟩ (.bool u)):=by
 obtain⟨k1,k2,k3,⟨v,k4⟩,k5⟩:=h
 have h2:=k4.set c hc u
 have e:(fun k=>if k=c then u else (if k=c then v else F2 k))=fun k=>if k=c then u else F2 k:=by
  funext k;split <;> rfl
 rw[e] at h2
 exact⟨k3.other g2 c hg _,h2,k5.setCell hW _,k1.other g2 c ha _,k2.other g2 c hb _,k3.other g2 c hg _,⟨u,h2⟩,k5.setCell hW _⟩
theorem SKP.store {W w:World} {ba bb:Nat} {ps ns:List ByteArray} {g g2 n c:Nat} {F F2:Nat→Bool} {r j:Nat} {x y:ByteArray} (hc:c<n) (ha:ba≠g2) (hb:bb≠g2) (hg:g≠g2) (hW:W.heap.size≤g2) (u:Bool) (h:SKP W ba bb ps ns g g2 n c F F2 r j x y w):SKP W ba bb ps ns g g2 n c F F2 r j x y (w.setCell ⟨g2,c,none⟩ (.bool u)):=by
 obtain⟨h1,h2,h3,h4,h5,hk⟩:=h
 obtain⟨z1,z2,z3,z4⟩:=hk.set hc ha hb hg hW u
 have cc:=z2.1 c hc
 have f1:(g2==g)=false:=by simpa using fun h=>hg h.symm
 have f2:(g2==ba)=false:=by simpa using fun h=>ha h.symm
 have f3:(g2==bb)=false:=by simpa using fun h=>hb h.symm
 have o1:g2≠g:=fun h=>hg h.symm
 have o2:g2≠ba:=fun h=>ha h.symm
 have o3:g2≠bb:=fun h=>hb h.symm
 refine⟨?_,?_,?_,bvc_of cc,z2.2,z4⟩
 · rw[← h1];simp [go_sem]
 · rw[← h2];simp [go_sem]
 · rw[← h3];simp [go_sem]
theorem rds_match (p s:ByteArray) (w:World) :
  Calls Tryz.prog 233 #[.string p,.string s] w fun e w'=>e=.returned (.bool (Ds.match_ (Ds.bl p) (Ds.bl s)))∧Below w.heap.size w w':=by
 have B:=Below.refl w.heap.size w
 cases hp:Ds.pat (Ds.bl p)
 · have D:=Lib.hid (show Ds.match_ (Ds.bl p) (Ds.bl s)=false by unfold Ds.match_;rw[hp];rfl)
   go_enter Tryz.func233,Tryz.ntmps233
   go_wp2_with (go_at_call 58;(with_reducible refine (rds_pat _ _).mono ?_);rintro e w1 ⟨rfl,hb⟩;have B:=Below.trans B (hb.mono B.size);clear hb)
   go_ret
   exact⟨ret_bool D.out.symm,B⟩
 cases hs:Ds.name (Ds.bl s)
 · have D:=Lib.hid (show Ds.match_ (Ds.bl p) (Ds.bl s)=false by unfold Ds.match_;rw[hs];simp)
   go_enter Tryz.func233,Tryz.ntmps233
   go_wp2_with (first | (go_at_call 58;(with_reducible refine (rds_pat _ _).mono ?_);rintro e w1 ⟨rfl,hb⟩;have B:=Below.trans B (hb.mono B.size);clear hb) | (go_at_call 50;(with_reducible refine (rds_Valid _ _).mono ?_);rintro e w1 ⟨rfl,hb⟩;have B:=Below.trans B (hb.mono B.size);clear hb))
   go_ret
   exact⟨ret_bool D.out.symm,B⟩
 have D:=Lib.hid (show Ds.match_ (Ds.bl p) (Ds.bl s)=Ds.mtP (Ds.pieces (Ds.bl p)) (Ds.pieces (Ds.bl s)) by unfold Ds.match_;rw[hp,hs];rfl)
 have p1:p.size≤31:=by have:=((Ds.pat_parts _).1 hp).1.2;rwa [Ds.bl_length] at this
 have s1:=(rname_size s hs).1
 have p2:p.size≤1000:=by omega
 have s2:s.size≤1000:=by omega
 obtain⟨i0,hi,hz0,hz1,hz2⟩:=info_parts boolInfo
 have HI:=Lib.hid hi
 have HZ0:=Lib.hid hz0
 have HZ1:=Lib.hid hz1
 have HM:Hid (∀ n:Nat,n≤1000→i0.bytes*n≤281474976710656):=Lib.hid (fun n hn=>by rw[hz2];omega)
 have HX:=Lib.hid (fun n (hn:n≤1000)=>show n≤maxLen by unfold maxLen;omega)
 clear hi hz0 hz1 hz2
 go_enter Tryz.func233,Tryz.ntmps233
 go_wp2_with (first | (go_at_call 58;(with_reducible refine (rds_pat _ _).mono ?_);rintro e w1 ⟨rfl,hb⟩;have B:=Below.trans B (hb.mono B.size);clear hb) | (go_at_call 50;(with_reducible refine (rds_Valid _ _).mono ?_);rintro e w1 ⟨rfl,hb⟩;have B:=Below.trans B (hb.mono B.size);clear hb) | (go_at_call 57;(with_reducible refine (rds_parts' p _ p2).mono ?_);rintro e w1 ⟨ps,ba,ca,hpp,hpl,ha1,ha2,rfl,hS,hcap,hb⟩;have HP:=Lib.hid hpp;have HS:=Lib.hid hS;have B:=bt B hb;clear hpp hS hb) | (go_at_call 57;(with_reducible refine (rds_parts' s _ s2).mono ?_);rintro e w2 ⟨ns,bb,cb,hnn,hnl,hb1,hb2,rfl,hT,hcap2,hb⟩;have HN:=Lib.hid hnn;have HT:=Lib.hid hT;have HS2:=Lib.hid (HS.out.below hb);have B:=bt B hb;have ha3:=Nat.lt_of_lt_of_le ha2 hb.size;clear hnn hT hb) | (at_make;refine wpList_make_full _ rfl _ _ 268 rfl w2.heap.size 4 i0 (.bool false) 1 Tryz.underlying268 HI.out HZ0.out HZ1.out _ _ _ _ (ns.length+1) rfl rfl (by omega) (by omega) (HM.out _ (by omega)) (HX.out _ (by omega)) (Nat.le_refl _) ?_;intro w3 hown hgrow;have hB0:=BI.made hown;have h0:=hB0.1 0 (by omega);have f0:=hB0.2 0;have B3:=(Below.refl w2.heap.size w2).grown hgrow (Nat.le_refl _) (by simp);have HB:=Lib.hid hB0;clear hown hgrow hB0))
 have hps:=Lib.hid (fun k (h:k<ps.length)=>Nat.le_trans (Ds.piece_len HP.out k h) (by rw[Ds.bl_length];exact p2))
 have hns:=Lib.hid (fun k (h:k<ns.length)=>Nat.le_trans (Ds.piece_len HN.out k h) (by rw[Ds.bl_length];exact s2))
 go_loopw [7,8,9,10] (fun v i _ _ wr=>∃ (r g:Nat) (F:Nat→Bool),r≤ps.length∧i=.int .i64 r∧v=.slice (some ⟨g,0,none⟩) (ns.length+1) (ns.length+1)∧w2.heap.size≤g∧BI wr g (ns.length+1) F∧(∀ k,k<ns.length+1→F k=Ds.fw starP Ds.mtQ (ps.map Ds.bl) (ns.map Ds.bl) r k)∧Below w2.heap.size w2 wr) (fun _ i _ _ _=>ps.length - (intOf i).toNat)
 case atStart =>
  refine⟨0,w2.heap.size,_,by omega,rfl,rfl,Nat.le_refl _,HB.out.set 0 (by omega) true,?_,B3.setCell (by simp) _⟩
  intro k hk
  rw[Ds.fw_zero _ _ _ _ _ (by rw[List.length_map];omega)]
  by_cases e:k=0 <;> simp [e]
 case round =>
  clear HB h0 f0 B3 HS
  obtain⟨r,g,F,hr,rfl,rfl,hgB,hA,hF,BR⟩:=hrel
  have HF:=Lib.hid hF
  have HA:=Lib.hid hA
  have hgl:=hA.lt (by omega)
  have BRH:=Lib.hid BR
  have hsz:=BR.size
  clear hF hA BR
  obtain⟨wo,hwo⟩:∃ wo:World,wo=wr:=⟨_,rfl⟩
  subst hwo
  by_cases hlt:r<ps.length
  · have hrl:r<(ps.map Ds.bl).length:=by simpa using hlt
    have HR:=Lib.hid hrl
    obtain⟨x,hx⟩:∃ x,x=ps[r]:=⟨_,rfl⟩
    have HXB:=Lib.hid (show (ps.map Ds.bl)[r]'HR.out=Ds.bl x by rw[hx];simp)
    have hxs:x.size≤1000:=by rw[hx];exact hps.out r hlt
    have HXC:=Lib.hid (fun W (h:Strs W ba ps)=>show W.cell? ⟨ba,r,none⟩=some (.string x) by rw[hx];exact h r hlt)
    clear hrl hx
    go_wp2_with (at_make;refine wpList_make_full _ rfl _ _ 268 rfl w2.heap.size 4 i0 (.bool false) 1 Tryz.underlying268 HI.out HZ0.out HZ1.out _ _ _ _ (ns.length+1) rfl rfl (by omega) (by omega) (HM.out _ (by omega)) (HX.out _ (by omega)) hsz ?_;intro w4 hown hgrow;have hB0:=Lib.hid (BI.made hown);have hA2:=Lib.hid (HA.out.grown hgrow (by omega));have B2:=Lib.hid (BRH.out.grown hgrow hsz (by simp));clear hown hgrow)
    go_loopw [10] (fun k wi=>∃ (c:Nat) (F2:Nat→Bool),c≤ns.length+1∧k=.int .i64 c∧BI wi g (ns.length+1) F∧BI wi wo.heap.size (ns.length+1) F2∧(∀ c',c'<c→F2 c'=Ds.fw starP Ds.mtQ (ps.map Ds.bl) (ns.map Ds.bl) (r+1) c')∧Below w2.heap.size w2 wi) (fun k _=>ns.length+1 - (intOf k).toNat)
    case atStart=>exact⟨0,_,by omega,rfl,hA2.out,hB0.out,by intro c' h;omega,B2.out⟩
    case round =>
     clear hB0 hA2 B2 HA
     obtain⟨c,F2,hc,rfl,hA,hC,hG,BI'⟩:=hrel
     have HG:=Lib.hid hG
     have HBI:=Lib.hid BI'
     clear hG
     have hne:g≠wo.heap.size:=by omega
     have HS:=Lib.hid (fun (v:Bool) (hcs:c<ns.length+1) hv=>pm_step hA hC hne hcs v hv HG.out HBI.out hsz)
     have SA:=HS2.out.below BI'
     have SB:=HT.out.below BI'
     have HSA:=Lib.hid SA
     have HSB:=Lib.hid SB
     have hxc:=HXC.out _ SA
     have HCC:=Lib.hid hC
     have HAA:=Lib.hid hA
     clear SA SB BI'
     by_cases hcl:c<ns.length+1
     · have cz:=hC.1 c hcl
       have fz:=hC.2
       by_cases hxx:x=⟨#[42,42]⟩
       · have hst:starP ((ps.map Ds.bl)[r]'HR.out)=true:=by rw[HXB.out,hxx];rfl
         have hT:=Ds.fw_star starP Ds.mtQ (ps.map Ds.bl) (ns.map Ds.bl) r c HR.out (by rw[List.length_map];omega) hst
         rw[← HF.out c hcl] at hT
         have HTT:=Lib.hid hT
         have hcf:=hA.1 c hcl
         subst hxx
         clear hT hst hA
         cases hv:F c
         · rw[hv] at hcf
           have HV:=Lib.hid hv
           rcases c with _ | j
           · clear hv hC
             go_wp2_with fail
             go_roundw
             case rel =>
              have Z:=HS.out false hcl (by rw[HTT.out,HV.out];simp)
              exact⟨1,_,by omega,by go_num,Z.1,Z.2.1,Z.2.2.1,Z.2.2.2⟩
             case measure=>simp [intOf]
           · have hcj:=hC.1 j (by omega)
             have HJ:=Lib.hid (HG.out j (by omega))
             clear hv hC
             go_wp2_with fail
             go_roundw
             case rel =>
              have Z:=HS.out (F2 j) hcl (by rw[HTT.out,HV.out,HJ.out];simp)
              exact⟨j+1+1,_,by omega,by go_num,Z.1,Z.2.1,Z.2.2.1,Z.2.2.2⟩
             case measure=>simp [intOf];omega
         · rw[hv] at hcf
           have HV:=Lib.hid hv
           clear hv hC
           go_wp2_with fail
           go_roundw
           case rel =>
            have Z:=HS.out true hcl (by rw[HTT.out,HV.out];simp)
            exact⟨c+1,_,by omega,by go_num,Z.1,Z.2.1,Z.2.2.1,Z.2.2.2⟩
           case measure=>simp [intOf];omega
       · have hst:starP ((ps.map Ds.bl)[r]'HR.out)=false:=by rw[HXB.out];exact decide_eq_false (fun e=>hxx ((Ds.bl_eq x [42,42]).2 e))
         have hnx:=Ds.bl_beq x [42,42] hxx
         clear hxx hC
         rcases c with _ | j
         · have HTT:=Lib.hid (Ds.fw_one0 starP Ds.mtQ (ps.map Ds.bl) (ns.map Ds.bl) r HR.out hst)
           clear hst hA
           go_wp2_with fail
           go_region
           go_wp2_with fail
           go_roundw
           case rel =>
            have Z:=HS.out false hcl (by rw[HTT.out])
            exact⟨1,_,by omega,by go_num,Z.1.drew,Z.2.1.drew,Z.2.2.1,Z.2.2.2.drew⟩
           case measure=>simp [intOf]
         · have hjs:j<ns.length:=by omega
           have hjl:j<(ns.map Ds.bl).length:=by simpa using hjs
           have hT:=Ds.fw_one starP Ds.mtQ (ps.map Ds.bl) (ns.map Ds.bl) r j HR.out hjl hst
           obtain⟨y,hy⟩:∃ y,y=ns[j]:=⟨_,rfl⟩
           have hys:y.size≤1000:=by rw[hy];exact hns.out j hjs
           have hyc:wr.cell? ⟨bb,j,none⟩=some (.string y):=by rw[hy];exact HSB.out j hjs
           rw[← HF.out j (by omega),HXB.out,show (ns.map Ds.bl)[j]'hjl=Ds.bl y by rw[hy];simp] at hT
           have HTT:=Lib.hid hT
           have hcj:=hA.1 j (by omega)
           clear hst hT hjl hy hA
           cases hv:F j
           · rw[hv] at hcj
             have HV:=Lib.hid hv
             clear hv
             go_wp2_with fail
             go_region
             go_wp2_with fail
             go_roundw
             case rel =>
              have Z:=HS.out false hcl (by rw[HTT.out,HV.out];simp)
              exact⟨j+1+1,_,by omega,by go_num,Z.1.drew,Z.2.1.drew,Z.2.2.1,Z.2.2.2.drew⟩
             case measure=>simp [intOf];omega
           · rw[hv] at hcj
             have HV:=Lib.hid hv
             have KS:=KJ.start (c:=j+1) HSA.out HSB.out HAA.out HCC.out HBI.out
             have H0:=Lib.hid (show SKP w2 ba bb ps ns g wo.heap.size (ns.length+1) (j+1) F F2 r j x y wr.drew from ⟨hcj,hxc,hyc,bvc_of cz,fz,KS⟩)
             have d1:ba≠wo.heap.size:=by omega
             have d2:bb≠wo.heap.size:=by omega
             clear hv KS
             go_wp2_with fail
             have b1:IntKind.i64.wrap (j:Int)=(j:Int):=IntWalk.i64_in _ (by omega)
             have b2:(0:Int)≤(j:Int):=by omega
             have b3:(j:Int)<ns.length:=by omega
             have b4:(j:Int)+1<(ns.length:Int)+1:=by omega
             have b5:(0:Int)≤(j:Int)+1:=by omega
             have b6:(0:Int)<(j:Int)+1:=by omega
             have b7:(r:Int)<ps.length:=by omega
             have b8:(0:Int)≤(r:Int):=by omega
             have b9:(j:Int)<(ns.length:Int)+1:=by omega
             have b10:((j:Int)).toNat=j:=by omega
             have b11:((j:Int)+1).toNat=j+1:=by omega
             have b12:((r:Int)).toNat=r:=by omega
             go_region_held3 (fun w'=>w'.cell? ⟨g,j,none⟩=some (.bool true)∧w'.cell? ⟨ba,r,none⟩=some (.string x)∧w'.cell? ⟨bb,j,none⟩=some (.string y)∧w'.cell? ⟨wo.heap.size,j+1,none⟩=some (.bool (bvc w' wo.heap.size (j+1)))∧(∀ o,w'.frozen? ⟨wo.heap.size,o,none⟩=false)∧KJ w2 ba bb ps ns g wo.heap.size (ns.length+1) (j+1) F F2 w') (first | exact H0.out | exact SKP.call hcl hb (by assumption) | exact SKP.store hcl d1 d2 hne hsz _ (by assumption)) (first | (go_at_call 265;(with_reducible refine (rds_partMatch x y _ hxs hys).mono ?_);rintro e w5 ⟨rfl,hb⟩))
             have S2:=SKP.call hcl hb H0.out
             have Z:=S2.2.2.2.2.2.set hcl d1 d2 hne hsz (Ds.mtQ (Ds.bl x) (Ds.bl y))
             have HZ:=Lib.hid (And.intro Z.1 (And.intro Z.2.1 Z.2.2.1))
             have HW:=Lib.hid (show ∀ c',c'<j+1+1→(if c'=j+1 then Ds.mtQ (Ds.bl x) (Ds.bl y) else F2 c')=Ds.fw starP Ds.mtQ (ps.map Ds.bl) (ns.map Ds.bl) (r+1) c' by
              intro c' h'
              by_cases e:c'=j+1
              · rw[if_pos e,e,HTT.out,HV.out,Bool.true_and]
              · rw[if_neg e];exact HG.out c' (by omega))
             clear S2 Z b1 b2 b3 b4 b5 b6 b7 b8 b9 b10 b11 b12
             go_wp2_with fail
             go_roundw
             case rel=>exact⟨j+1+1,_,by omega,by go_num,HZ.out.1,HZ.out.2.1,HW.out,HZ.out.2.2⟩
             case measure=>simp [intOf];omega
     · obtain rfl:c=ns.length+1:=by omega
       clear hA hC
       go_wp2_with fail
       go_roundw
       case rel=>exact⟨r+1,wo.heap.size,F2,by omega,by go_num,rfl,hsz,HCC.out,HG.out,HBI.out⟩
       case measure=>simp [intOf];omega
  · obtain rfl:r=ps.length:=by omega
    have hcl:=HA.out.1 ns.length (by omega)
    have HV:=Lib.hid (HF.out ns.length (by omega))
    go_wp2_with fail
    go_ret
    refine⟨ret_bool ?_,B.trans (BRH.out.mono B.size)⟩
    rw[HV.out,D.out,← HP.out,← HN.out]
    have:=Ds.fw_all starP Ds.mtQ (ps.map Ds.bl) (ns.map Ds.bl)
    rw[List.length_map,List.length_map] at this
    exact this
end Go.Proofs.YtlmgolkgodfmpaaGreatDoor
end
section
/- Contracts of the reference of chapter 34: has, Best. Printed by wip/mkrl.py. -/
namespace Go.Proofs.YtlmgolkgodfmpaaGreatDoor
open Go.RowKit
set_option maxHeartbeats 40000000
set_option maxRecDepth 8000
theorem rhas (v:Value) (l:List ByteArray) (x:ByteArray) (w:World) (h:SS w v l) :
  Calls Tryz.prog 175 #[v,.string x] w fun r w'=>r=.returned (.bool (l.any (fun a=>decide (a=x))))∧w'=w:=by
 obtain⟨a,c,rfl,hz,hc⟩:=h
 have HC:=Lib.hid hc
 clear hc
 go_enter Tryz.func175,Tryz.ntmps175
 go_wp2_with fail
 go_loopw [5] (fun i wr=>∃ k:Nat,k≤l.length∧i=.int .i64 k∧(l.take k).any (fun a=>decide (a=x))=false∧wr=w) (fun i _=>l.length - (intOf i).toNat)
 case atStart=>exact⟨0,Nat.zero_le _,rfl,rfl,rfl⟩
 case round =>
  obtain⟨k,hk,rfl,hno,rfl⟩:=hrel
  by_cases hlt:k<l.length
  · obtain⟨b,o,rfl,hb,hcell⟩:=HC.out (by omega)
    have c0:=hcell k hlt
    have E:Hid ((l.take (k+1)).any (fun a=>decide (a=x))=decide (l[k]=x)):=Lib.hid (by rw[List.take_succ_eq_append_getElem hlt,any_snoc,hno,Bool.false_or])
    have hq:=tl_beq l[k] x
    have HM:Hid (l[k]=x→l.any (fun a=>decide (a=x))=true):=Lib.hid (fun e=>List.any_eq_true.2 ⟨l[k],List.getElem_mem hlt,decide_eq_true e⟩)
    clear hcell hno
    by_cases hx:l[k]=x
    · rw[decide_eq_true hx] at hq
      have HT:=Lib.hid (HM.out hx)
      clear hx
      go_wp2_with fail
      go_ret
      exact⟨ret_bool HT.out.symm,rfl⟩
    · rw[decide_eq_false hx] at hq
      have HE:Hid ((l.take (k+1)).any (fun a=>decide (a=x))=false):=Lib.hid (by rw[E.out,decide_eq_false hx])
      clear hx
      go_wp2_with fail
      go_roundw
      case rel=>exact⟨k+1,by omega,by go_num,HE.out,trivial⟩
      case measure=>simp [intOf];omega
  · obtain rfl:k=l.length:=by omega
    rw[List.take_length] at hno
    have HN:=Lib.hid hno
    clear hno
    go_wp2_with fail
    go_ret
    exact⟨ret_bool HN.out.symm,rfl⟩
attribute [local go_sem ↓] ldEnt stEnt stEnt2 stEntRow ldEntM
attribute [local go_sem] Held_drew isHead_mk headOf_mk offOf_mk isPtr_mk cellsOfV_mk isAggV_mk row_new row_new2 row_new2' row_drew row_drewN vals_size allOne_nil allOne_cons one_int one_bool one_string one_pointer one_slice one_func vals_0 vals_1 vals_28 vals_31 vals_32
theorem rbest (a:Option Addr) (n c:Nat) (F:Nat→Ef) (name:ByteArray) (w:World) (hES:ES w a n F) (hn:n≤1000) (hF:∀ k,k<n→(F k).e.name.size≤60∧(F k).n2≤1000) :
  Calls Tryz.prog 174 #[.slice a n c,.string name] w fun r w'=>BestR (Ds.bl name) (lst F n) r w'∧Below w.heap.size w w':=by
 have HF:=Lib.hid hF
 have HES:=Lib.hid hES
 clear hF hES
 go_enter Tryz.func174,Tryz.ntmps174
 go_wp2_with fail
 go_loopw [6,7] (fun bj i wr=>∃ (k:Nat) (j:Int),k≤n∧i=.int .i64 k∧bj=.int .i64 j∧BI2 (Ds.bl name) F k j∧BW w wr) (fun _ i _=>n - (intOf i).toNat)
 case atStart=>exact⟨0,-1,Nat.zero_le _,rfl,rfl,Or.inl ⟨rfl,rfl⟩,EB.new w zE _,by exact belA⟩
 case round =>
  obtain⟨k,j,hk,rfl,rfl,hj,hBW⟩:=hrel
  have HBW:=Lib.hid hBW
  have HJ:=Lib.hid hj
  clear hBW hj
  by_cases hlt:k<n
  · obtain⟨b,o,rfl,hb,a1,c1,a2,c2,hmid,-,-,hgs⟩:=(HES.out.below HBW.out.2).2 k hlt
    obtain⟨-,hg⟩:=hgs (HF.out k hlt).2
    have hx60:=(HF.out k hlt).1
    have hz:(mid wr b (o+k*33)).size=33:=by rw[hmid];exact vals_size _ _ _
    have hone:=vals_one (F k).e (.slice a1 (F k).n1 c1) (.slice a2 (F k).n2 c2) rfl rfl
    have HG:=Lib.hid hg
    clear hg hgs
    by_cases hk4:(F k).e.kind=4
    rotate_left
    · have q4:((F k).e.kind != 4)=true:=by rw[bne_iff_ne];exact hk4
      have HH:Hid (hits (Ds.bl name) (F k)=false):=Lib.hid (by unfold hits;rw[decide_eq_false hk4,Bool.false_and])
      clear hk4
      go_wp2_with fail
      go_roundw
      case rel=>exact⟨k+1,j,by omega,by go_num,rfl,HJ.out.keep (Or.inl HH.out),HBW.out.below ((Below.refl _ _).alloc (Nat.le_refl _) _)⟩
      case measure=>simp [intOf];omega
    have q4:((F k).e.kind != 4)=false:=by rw[hk4];rfl
    have R0:=row_new wr ((F k).e.vals (.slice a1 (F k).n1 c1) (.slice a2 (F k).n2 c2)) 27 (0,0)
    have N0:=cell_row R0 0 _ (vals_0 _ _ _)
    have ha:=fun W (B:Below (wr.alloc (.cells ((F k).e.vals (.slice a1 (F k).n1 c1) (.slice a2 (F k).n2 c2)) 27)).heap.size (wr.alloc (.cells ((F k).e.vals (.slice a1 (F k).n1 c1) (.slice a2 (F k).n2 c2)) 27)) W)=>below1 B
    have hv:=fun W B=>rva_ef (F k) a1 c1 (.slice a2 (F k).n2 c2) W hk4 hx60 (HG.out.below (ha W B))
    have hmt:=fun W=>rds_match (F k).e.name name W
    have hh4:hits (Ds.bl name) (F k)=(okQ (F k)&&Ds.match_ (Ds.bl (F k).e.name) (Ds.bl name)):=by unfold hits;rw[decide_eq_true hk4,Bool.true_and]
    have HA:=Lib.hid ha
    clear ha hk4
    cases hq:okQ (F k)
    · rw[hq] at hv hh4
      have HV:=Lib.hid hv
      have HH:=Lib.hid hh4
      clear hv hmt hh4 hq
      go_wp2_with (go_at_call 11;(with_reducible refine (HV.out _ (by exact belA)).mono ?_);rintro _ w2 ⟨rfl,hb⟩;have Q1:=row_below hb R0 (by simp [vals_size]);have N1:=cell_row Q1 1 _ (vals_1 _ _ _);have B2:=hb;clear hb)
      go_roundw
      case rel=>exact⟨k+1,j,by omega,by go_num,rfl,HJ.out.keep (Or.inl (by rw[HH.out];rfl)),HBW.out.after B2⟩
      case measure=>simp [intOf];omega
    rw[hq] at hv hh4
    cases hmm:Ds.match_ (Ds.bl (F k).e.name) (Ds.bl name)
    · rw[hmm] at hmt hh4
      have HV:=Lib.hid hv
      have HM:=Lib.hid hmt
      have HH:=Lib.hid hh4
      clear hv hmt hh4 hq hmm
      go_wp2_with (first | (go_at_call 11;(with_reducible refine (HV.out _ (by exact belA)).mono ?_);rintro _ w2 ⟨rfl,hb⟩;have Q1:=row_below hb R0 (by simp [vals_size]);have N1:=cell_row Q1 1 _ (vals_1 _ _ _);have B2:=hb;clear hb) | (go_at_call 233;(with_reducible refine (HM.out _).mono ?_);rintro _ w3 ⟨rfl,hb⟩;have Q2:=row_below hb Q1 (by simp [vals_size]);have N2:=cell_row Q2 1 _ (vals_1 _ _ _);have B3:=bt B2 hb;clear hb))
      go_roundw
      case rel=>exact⟨k+1,j,by omega,by go_num,rfl,HJ.out.keep (Or.inl (by rw[HH.out];rfl)),HBW.out.after B3⟩
      case measure=>simp [intOf];omega
    rw[hmm] at hmt hh4
    rcases HJ.out with ⟨hno,rfl⟩ | ⟨i,rfl,hik,hso⟩
    · have HV:=Lib.hid hv
      have HM:=Lib.hid hmt
      have HH:=Lib.hid hh4
      have HN:=Lib.hid hno
      clear hv hmt hh4 hq hmm hno
      go_upto_region 7 with (first | (go_at_call 11;(with_reducible refine (HV.out _ (by exact belA)).mono ?_);rintro _ w2 ⟨rfl,hb⟩;have Q1:=row_below hb R0 (by simp [vals_size]);have N1:=cell_row Q1 1 _ (vals_1 _ _ _);have B2:=hb;clear hb) | (go_at_call 233;(with_reducible refine (HM.out _).mono ?_);rintro _ w3 ⟨rfl,hb⟩;have Q2:=row_below hb Q1 (by simp [vals_size]);have N2:=cell_row Q2 1 _ (vals_1 _ _ _);have B3:=bt B2 hb;clear hb))
      refine wp_region_held_drew (S:=fun w'=>row w' wr.heap.size=((F k).e.vals (.slice a1 (F k).n1 c1) (.slice a2 (F k).n2 c2))∧w'.cell? ⟨wr.heap.size,1,none⟩=some (.string (F k).e.name)∧Below (wr.alloc (.cells ((F k).e.vals (.slice a1 (F k).n1 c1) (.slice a2 (F k).n2 c2)) 27)).heap.size (wr.alloc (.cells ((F k).e.vals (.slice a1 (F k).n1 c1) (.slice a2 (F k).n2 c2)) 27)) w') (by kernel_rfl) ?_ (fun hHeld=>?_)
      · exact⟨Q2,N2,Below.drew B3⟩
      (refine rg_y (i:=0) (some 34) (v:=?_) rfl rfl (by kernel_rfl) (by kernel_rfl) (by kernel_rfl) (fun _ _ _ h=>h) (by kernel_rfl) ?_ (by assumption) ?_;rotate_left 1;focus (intro w hSw;(try dsimp only at hSw);(first | (go_simp;done) | (go_simp;with_reducible rfl)));(try simp only[Act.put,List.setIfInBounds_toArray,List.set_cons_zero,List.set_cons_succ]))
      (refine rg_y (i:=1) (some 35) (v:=?_) rfl rfl (by kernel_rfl) (by kernel_rfl) (by kernel_rfl) (fun _ _ _ h=>h) (by kernel_rfl) ?_ (by assumption) ?_;rotate_left 1;focus (intro w hSw;(try dsimp only at hSw);(first | (go_simp;done) | (go_simp;with_reducible rfl)));(try simp only[Act.put,List.setIfInBounds_toArray,List.set_cons_zero,List.set_cons_succ]))
      (refine rg_y (i:=2) (some 36) (v:=?_) rfl rfl (by kernel_rfl) (by kernel_rfl) (by kernel_rfl) (fun _ _ _ h=>h) (by kernel_rfl) ?_ (by assumption) ?_;rotate_left 1;focus (intro w hSw;(try dsimp only at hSw);(first | (go_simp;done) | (go_simp;with_reducible rfl)));(try simp only[Act.put,List.setIfInBounds_toArray,List.set_cons_zero,List.set_cons_succ]))
      (refine rg_s (i:=3) (some 37) rfl rfl (by kernel_rfl) (by kernel_rfl) (by kernel_rfl) (fun _ _ _ h=>h) (by kernel_rfl) (by assumption) ?_;(try simp only[Act.put,List.setIfInBounds_toArray,List.set_cons_zero,List.set_cons_succ]))
      (refine rg_s (i:=4) (some 38) rfl rfl (by kernel_rfl) (by kernel_rfl) (by kernel_rfl) (fun _ _ _ h=>h) (by kernel_rfl) (by assumption) ?_;(try simp only[Act.put,List.setIfInBounds_toArray,List.set_cons_zero,List.set_cons_succ]))
      (refine rg_s (i:=5) (some 39) rfl rfl (by kernel_rfl) (by kernel_rfl) (by kernel_rfl) (fun _ _ _ h=>h) (by kernel_rfl) (by assumption) ?_;(try simp only[Act.put,List.setIfInBounds_toArray,List.set_cons_zero,List.set_cons_succ]))
      (refine rg_s (i:=6) (some 40) rfl rfl (by kernel_rfl) (by kernel_rfl) (by kernel_rfl) (fun _ _ _ h=>h) (by kernel_rfl) (by assumption) ?_;(try simp only[Act.put,List.setIfInBounds_toArray,List.set_cons_zero,List.set_cons_succ]))
      (refine rg_s (i:=7) (some 41) rfl rfl (by kernel_rfl) (by kernel_rfl) (by kernel_rfl) (fun _ _ _ h=>h) (by kernel_rfl) (by assumption) ?_;(try simp only[Act.put,List.setIfInBounds_toArray,List.set_cons_zero,List.set_cons_succ]))
      (refine rg_s (i:=8) (some 42) rfl rfl (by kernel_rfl) (by kernel_rfl) (by kernel_rfl) (fun _ _ _ h=>h) (by kernel_rfl) (by assumption) ?_;(try simp only[Act.put,List.setIfInBounds_toArray,List.set_cons_zero,List.set_cons_succ]))
      (refine rg_s (i:=9) (some 43) rfl rfl (by kernel_rfl) (by kernel_rfl) (by kernel_rfl) (fun _ _ _ h=>h) (by kernel_rfl) (by assumption) ?_;(try simp only[Act.put,List.setIfInBounds_toArray,List.set_cons_zero,List.set_cons_succ]))
      (refine rg_n (i:=10) (some 44) rfl rfl (by kernel_rfl) (by kernel_rfl) (by assumption) ?_;(try simp only[Act.put,List.setIfInBounds_toArray,List.set_cons_zero,List.set_cons_succ]))
      (refine rg_s (i:=11) (some 45) rfl rfl (by kernel_rfl) (by kernel_rfl) (by kernel_rfl) (fun _ _ _ h=>h) (by kernel_rfl) (by assumption) ?_;(try simp only[Act.put,List.setIfInBounds_toArray,List.set_cons_zero,List.set_cons_succ]))
      (refine rg_y (i:=12) (some 46) (v:=?_) rfl rfl (by kernel_rfl) (by kernel_rfl) (by kernel_rfl) (fun _ _ _ h=>h) (by kernel_rfl) ?_ (by assumption) ?_;rotate_left 1;focus (intro w hSw;(try dsimp only at hSw);(first | (go_simp;done) | (go_simp;with_reducible rfl)));(try simp only[Act.put,List.setIfInBounds_toArray,List.set_cons_zero,List.set_cons_succ]))
      refine wpAnyH_done (by kernel_rfl) ?_ _
      go_wp2_with fail
      go_roundw
      case rel=>exact⟨k+1,k,by omega,by go_num,rfl,BI2.take (by rw[HH.out];rfl) (by rw[HN.out];rfl),HBW.out.after hHeld.2.2⟩
      case measure=>simp [intOf];omega
    · obtain⟨b',o',e',-,i1',c1',i2',c2',himid,-⟩:=(HES.out.below HBW.out.2).2 i (by omega)
      cases e'
      have C2:=below_cell ((Below.refl wr.heap.size wr).alloc (Nat.le_refl _) (.cells ((F k).e.vals (.slice a1 (F k).n1 c1) (.slice a2 (F k).n2 c2)) 27)) (cell_mid himid 1 _ (vals_1 _ _ _))
      have ho:=fun W=>rds_order (F k).e.name (F i).e.name W hx60 (HF.out i (by omega)).1
      have i1:(0:Int)≤(i:Int):=by omega
      have i2:(i:Int)<(n:Int):=by omega
      have hah:ahead (F k) (best (Ds.bl name) (lst F k))=decide (Ds.order (Ds.bl (F k).e.name) (Ds.bl (F i).e.name)<0):=by rw[hso];rfl
      have i3:¬ ((i:Int)<0):=by omega
      generalize Ds.order (Ds.bl (F k).e.name) (Ds.bl (F i).e.name)=od at ho hah
      have HV:=Lib.hid hv
      have HM:=Lib.hid hmt
      have HO:=Lib.hid ho
      have HH:=Lib.hid hh4
      have HSO:=Lib.hid hso
      clear hv hmt ho hh4 hq hmm hso himid
      by_cases hod:od<0
      · have q5:decide (od<0)=true:=decide_eq_true hod
        rw[q5] at hah
        have HAH:=Lib.hid hah
        clear hah
        go_upto_region 7 with (first | (go_at_call 11;(with_reducible refine (HV.out _ (by exact belA)).mono ?_);rintro _ w2 ⟨rfl,hb⟩;have Q1:=row_below hb R0 (by simp [vals_size]);have N1:=cell_row Q1 1 _ (vals_1 _ _ _);have B2:=hb;clear hb) | (go_at_call 233;(with_reducible refine (HM.out _).mono ?_);rintro _ w3 ⟨rfl,hb⟩;have Q2:=row_below hb Q1 (by simp [vals_size]);have N2:=cell_row Q2 1 _ (vals_1 _ _ _);have B3:=bt B2 hb;clear hb))
        have D2:=below_cell B3 C2
        refine wp_region_held_drew (S:=fun w'=>row w' wr.heap.size=((F k).e.vals (.slice a1 (F k).n1 c1) (.slice a2 (F k).n2 c2))∧w'.cell? ⟨wr.heap.size,1,none⟩=some (.string (F k).e.name)∧w'.cell? ⟨b,o+i*33+1,none⟩=some (.string (F i).e.name)∧Below (wr.alloc (.cells ((F k).e.vals (.slice a1 (F k).n1 c1) (.slice a2 (F k).n2 c2)) 27)).heap.size (wr.alloc (.cells ((F k).e.vals (.slice a1 (F k).n1 c1) (.slice a2 (F k).n2 c2)) 27)) w') (by kernel_rfl) ?_ (fun hHeld=>?_)
        · exact⟨Q2,N2,D2,Below.drew B3⟩
        (refine rg_y (i:=0) (some 34) (v:=?_) rfl rfl (by kernel_rfl) (by kernel_rfl) (by kernel_rfl) (fun _ _ _ h=>h) (by kernel_rfl) ?_ (by assumption) ?_;rotate_left 1;focus (intro w hSw;(try dsimp only at hSw);(first | (go_simp;done) | (go_simp;with_reducible rfl)));(try simp only[Act.put,List.setIfInBounds_toArray,List.set_cons_zero,List.set_cons_succ]))
        (refine rg_y (i:=1) (some 35) (v:=?_) rfl rfl (by kernel_rfl) (by kernel_rfl) (by kernel_rfl) (fun _ _ _ h=>h) (by kernel_rfl) ?_ (by assumption) ?_;rotate_left 1;focus (intro w hSw;(try dsimp only at hSw);(first | (go_simp;done) | (go_simp;with_reducible rfl)));(try simp only[Act.put,List.setIfInBounds_toArray,List.set_cons_zero,List.set_cons_succ]))
        (refine rg_y (i:=2) (some 36) (v:=?_) rfl rfl (by kernel_rfl) (by kernel_rfl) (by kernel_rfl) (fun _ _ _ h=>h) (by kernel_rfl) ?_ (by assumption) ?_;rotate_left 1;focus (intro w hSw;(try dsimp only at hSw);(first | (go_simp;done) | (go_simp;with_reducible rfl)));(try simp only[Act.put,List.setIfInBounds_toArray,List.set_cons_zero,List.set_cons_succ]))
        (refine rg_y (i:=3) (some 37) (v:=?_) rfl rfl (by kernel_rfl) (by kernel_rfl) (by kernel_rfl) (fun _ _ _ h=>h) (by kernel_rfl) ?_ (by assumption) ?_;rotate_left 1;focus (intro w hSw;(try dsimp only at hSw);(first | (go_simp;done) | (go_simp;with_reducible rfl)));(try simp only[Act.put,List.setIfInBounds_toArray,List.set_cons_zero,List.set_cons_succ]))
        (refine rg_y (i:=4) (some 38) (v:=?_) rfl rfl (by kernel_rfl) (by kernel_rfl) (by kernel_rfl) (fun _ _ _ h=>h) (by kernel_rfl) ?_ (by assumption) ?_;rotate_left 1;focus (intro w hSw;(try dsimp only at hSw);(first | (go_simp;done) | (go_simp;with_reducible rfl)));(try simp only[Act.put,List.setIfInBounds_toArray,List.set_cons_zero,List.set_cons_succ]))
        (refine rg_y (i:=5) (some 39) (v:=?_) rfl rfl (by kernel_rfl) (by kernel_rfl) (by kernel_rfl) (fun _ _ _ h=>h) (by kernel_rfl) ?_ (by assumption) ?_;rotate_left 1;focus (intro w hSw;(try dsimp only at hSw);(first | (go_simp;done) | (go_simp;with_reducible rfl)));(try simp only[Act.put,List.setIfInBounds_toArray,List.set_cons_zero,List.set_cons_succ]))
        (refine rg_y (i:=6) (some 40) (v:=?_) rfl rfl (by kernel_rfl) (by kernel_rfl) (by kernel_rfl) (fun _ _ _ h=>h) (by kernel_rfl) ?_ (by assumption) ?_;rotate_left 1;focus (intro w hSw;(try dsimp only at hSw);(first | (go_simp;done) | (go_simp;with_reducible rfl)));(try simp only[Act.put,List.setIfInBounds_toArray,List.set_cons_zero,List.set_cons_succ]))
        (refine rg_y (i:=7) (some 41) (v:=?_) rfl rfl (by kernel_rfl) (by kernel_rfl) (by kernel_rfl) (fun _ _ _ h=>h) (by kernel_rfl) ?_ (by assumption) ?_;rotate_left 1;focus (intro w hSw;(try dsimp only at hSw);(first | (go_simp;done) | (go_simp;with_reducible rfl)));(try simp only[Act.put,List.setIfInBounds_toArray,List.set_cons_zero,List.set_cons_succ]))
        (refine rg_y (i:=8) (some 42) (v:=?_) rfl rfl (by kernel_rfl) (by kernel_rfl) (by kernel_rfl) (fun _ _ _ h=>h) (by kernel_rfl) ?_ (by assumption) ?_;rotate_left 1;focus (intro w hSw;(try dsimp only at hSw);(first | (go_simp;done) | (go_simp;with_reducible rfl)));(try simp only[Act.put,List.setIfInBounds_toArray,List.set_cons_zero,List.set_cons_succ]))
        (refine rg_y (i:=9) (some 43) (v:=?_) rfl rfl (by kernel_rfl) (by kernel_rfl) (by kernel_rfl) (fun _ _ _ h=>h) (by kernel_rfl) ?_ (by assumption) ?_;rotate_left 1;focus (intro w hSw;(try dsimp only at hSw);(first | (go_simp;done) | (go_simp;with_reducible rfl)));(try simp only[Act.put,List.setIfInBounds_toArray,List.set_cons_zero,List.set_cons_succ]))
        (refine wpAnyH_ready (rs:=[10]) (by kernel_rfl) (by simp) ?_;refine AllReadyH.cons (o:=_) rfl (fun K hK=>?_) AllReadyH.nil)
        go_simp
        (go_at_call 234;(with_reducible refine (HO.out _).mono ?_);rintro _ w4 ⟨rfl,hb⟩)
        go_wp2_with fail
        refine hK.out _ _ (keepA hb hHeld (by simp [vals_size])) (fun hHeld=>?_)
        clear hb
        (clear hK K;(try simp only[Act.put,List.setIfInBounds_toArray,List.set_cons_zero,List.set_cons_succ]))
        (refine rg_y (i:=11) (some 45) (v:=?_) rfl rfl (by kernel_rfl) (by kernel_rfl) (by kernel_rfl) (fun _ _ _ h=>h) (by kernel_rfl) ?_ (by assumption) ?_;rotate_left 1;focus (intro w hSw;(try dsimp only at hSw);(first | (go_simp;done) | (go_simp;with_reducible rfl)));(try simp only[Act.put,List.setIfInBounds_toArray,List.set_cons_zero,List.set_cons_succ]))
        (refine rg_y (i:=12) (some 46) (v:=?_) rfl rfl (by kernel_rfl) (by kernel_rfl) (by kernel_rfl) (fun _ _ _ h=>h) (by kernel_rfl) ?_ (by assumption) ?_;rotate_left 1;focus (intro w hSw;(try dsimp only at hSw);(first | (go_simp;done) | (go_simp;with_reducible rfl)));(try simp only[Act.put,List.setIfInBounds_toArray,List.set_cons_zero,List.set_cons_succ]))
        refine wpAnyH_done (by kernel_rfl) ?_ _
        go_wp2_with fail
        go_roundw
        case rel=>exact⟨k+1,k,by omega,by go_num,rfl,BI2.take (by rw[HH.out];rfl) HAH.out,HBW.out.after hHeld.2.2.2⟩
        case measure=>simp [intOf];omega
      · have q5:decide (od<0)=false:=decide_eq_false hod
        rw[q5] at hah
        have HAH:=Lib.hid hah
        clear hah
        go_upto_region 7 with (first | (go_at_call 11;(with_reducible refine (HV.out _ (by exact belA)).mono ?_);rintro _ w2 ⟨rfl,hb⟩;have Q1:=row_below hb R0 (by simp [vals_size]);have N1:=cell_row Q1 1 _ (vals_1 _ _ _);have B2:=hb;clear hb) | (go_at_call 233;(with_reducible refine (HM.out _).mono ?_);rintro _ w3 ⟨rfl,hb⟩;have Q2:=row_below hb Q1 (by simp [vals_size]);have N2:=cell_row Q2 1 _ (vals_1 _ _ _);have B3:=bt B2 hb;clear hb))
        have D2:=below_cell B3 C2
        refine wp_region_held_drew (S:=fun w'=>row w' wr.heap.size=((F k).e.vals (.slice a1 (F k).n1 c1) (.slice a2 (F k).n2 c2))∧w'.cell? ⟨wr.heap.size,1,none⟩=some (.string (F k).e.name)∧w'.cell? ⟨b,o+i*33+1,none⟩=some (.string (F i).e.name)∧Below (wr.alloc (.cells ((F k).e.vals (.slice a1 (F k).n1 c1) (.slice a2 (F k).n2 c2)) 27)).heap.size (wr.alloc (.cells ((F k).e.vals (.slice a1 (F k).n1 c1) (.slice a2 (F k).n2 c2)) 27)) w') (by kernel_rfl) ?_ (fun hHeld=>?_)
        · exact⟨Q2,N2,D2,Below.drew B3⟩
        (refine rg_y (i:=0) (some 34) (v:=?_) rfl rfl (by kernel_rfl) (by kernel_rfl) (by kernel_rfl) (fun _ _ _ h=>h) (by kernel_rfl) ?_ (by assumption) ?_;rotate_left 1;focus (intro w hSw;(try dsimp only at hSw);(first | (go_simp;done) | (go_simp;with_reducible rfl)));(try simp only[Act.put,List.setIfInBounds_toArray,List.set_cons_zero,List.set_cons_succ]))
        (refine rg_y (i:=1) (some 35) (v:=?_) rfl rfl (by kernel_rfl) (by kernel_rfl) (by kernel_rfl) (fun _ _ _ h=>h) (by kernel_rfl) ?_ (by assumption) ?_;rotate_left 1;focus (intro w hSw;(try dsimp only at hSw);(first | (go_simp;done) | (go_simp;with_reducible rfl)));(try simp only[Act.put,List.setIfInBounds_toArray,List.set_cons_zero,List.set_cons_succ]))
        (refine rg_y (i:=2) (some 36) (v:=?_) rfl rfl (by kernel_rfl) (by kernel_rfl) (by kernel_rfl) (fun _ _ _ h=>h) (by kernel_rfl) ?_ (by assumption) ?_;rotate_left 1;focus (intro w hSw;(try dsimp only at hSw);(first | (go_simp;done) | (go_simp;with_reducible rfl)));(try simp only[Act.put,List.setIfInBounds_toArray,List.set_cons_zero,List.set_cons_succ]))
        (refine rg_y (i:=3) (some 37) (v:=?_) rfl rfl (by kernel_rfl) (by kernel_rfl) (by kernel_rfl) (fun _ _ _ h=>h) (by kernel_rfl) ?_ (by assumption) ?_;rotate_left 1;focus (intro w hSw;(try dsimp only at hSw);(first | (go_simp;done) | (go_simp;with_reducible rfl)));(try simp only[Act.put,List.setIfInBounds_toArray,List.set_cons_zero,List.set_cons_succ]))
        (refine rg_y (i:=4) (some 38) (v:=?_) rfl rfl (by kernel_rfl) (by kernel_rfl) (by kernel_rfl) (fun _ _ _ h=>h) (by kernel_rfl) ?_ (by assumption) ?_;rotate_left 1;focus (intro w hSw;(try dsimp only at hSw);(first | (go_simp;done) | (go_simp;with_reducible rfl)));(try simp only[Act.put,List.setIfInBounds_toArray,List.set_cons_zero,List.set_cons_succ]))
        (refine rg_y (i:=5) (some 39) (v:=?_) rfl rfl (by kernel_rfl) (by kernel_rfl) (by kernel_rfl) (fun _ _ _ h=>h) (by kernel_rfl) ?_ (by assumption) ?_;rotate_left 1;focus (intro w hSw;(try dsimp only at hSw);(first | (go_simp;done) | (go_simp;with_reducible rfl)));(try simp only[Act.put,List.setIfInBounds_toArray,List.set_cons_zero,List.set_cons_succ]))
        (refine rg_y (i:=6) (some 40) (v:=?_) rfl rfl (by kernel_rfl) (by kernel_rfl) (by kernel_rfl) (fun _ _ _ h=>h) (by kernel_rfl) ?_ (by assumption) ?_;rotate_left 1;focus (intro w hSw;(try dsimp only at hSw);(first | (go_simp;done) | (go_simp;with_reducible rfl)));(try simp only[Act.put,List.setIfInBounds_toArray,List.set_cons_zero,List.set_cons_succ]))
        (refine rg_y (i:=7) (some 41) (v:=?_) rfl rfl (by kernel_rfl) (by kernel_rfl) (by kernel_rfl) (fun _ _ _ h=>h) (by kernel_rfl) ?_ (by assumption) ?_;rotate_left 1;focus (intro w hSw;(try dsimp only at hSw);(first | (go_simp;done) | (go_simp;with_reducible rfl)));(try simp only[Act.put,List.setIfInBounds_toArray,List.set_cons_zero,List.set_cons_succ]))
        (refine rg_y (i:=8) (some 42) (v:=?_) rfl rfl (by kernel_rfl) (by kernel_rfl) (by kernel_rfl) (fun _ _ _ h=>h) (by kernel_rfl) ?_ (by assumption) ?_;rotate_left 1;focus (intro w hSw;(try dsimp only at hSw);(first | (go_simp;done) | (go_simp;with_reducible rfl)));(try simp only[Act.put,List.setIfInBounds_toArray,List.set_cons_zero,List.set_cons_succ]))
        (refine rg_y (i:=9) (some 43) (v:=?_) rfl rfl (by kernel_rfl) (by kernel_rfl) (by kernel_rfl) (fun _ _ _ h=>h) (by kernel_rfl) ?_ (by assumption) ?_;rotate_left 1;focus (intro w hSw;(try dsimp only at hSw);(first | (go_simp;done) | (go_simp;with_reducible rfl)));(try simp only[Act.put,List.setIfInBounds_toArray,List.set_cons_zero,List.set_cons_succ]))
        (refine wpAnyH_ready (rs:=[10]) (by kernel_rfl) (by simp) ?_;refine AllReadyH.cons (o:=_) rfl (fun K hK=>?_) AllReadyH.nil)
        go_simp
        (go_at_call 234;(with_reducible refine (HO.out _).mono ?_);rintro _ w4 ⟨rfl,hb⟩)
        go_wp2_with fail
        refine hK.out _ _ (keepA hb hHeld (by simp [vals_size])) (fun hHeld=>?_)
        clear hb
        (clear hK K;(try simp only[Act.put,List.setIfInBounds_toArray,List.set_cons_zero,List.set_cons_succ]))
        (refine rg_y (i:=11) (some 45) (v:=?_) rfl rfl (by kernel_rfl) (by kernel_rfl) (by kernel_rfl) (fun _ _ _ h=>h) (by kernel_rfl) ?_ (by assumption) ?_;rotate_left 1;focus (intro w hSw;(try dsimp only at hSw);(first | (go_simp;done) | (go_simp;with_reducible rfl)));(try simp only[Act.put,List.setIfInBounds_toArray,List.set_cons_zero,List.set_cons_succ]))
        (refine rg_y (i:=12) (some 46) (v:=?_) rfl rfl (by kernel_rfl) (by kernel_rfl) (by kernel_rfl) (fun _ _ _ h=>h) (by kernel_rfl) ?_ (by assumption) ?_;rotate_left 1;focus (intro w hSw;(try dsimp only at hSw);(first | (go_simp;done) | (go_simp;with_reducible rfl)));(try simp only[Act.put,List.setIfInBounds_toArray,List.set_cons_zero,List.set_cons_succ]))
        refine wpAnyH_done (by kernel_rfl) ?_ _
        go_wp2_with fail
        go_roundw
        case rel=>exact⟨k+1,i,by omega,by go_num,rfl,HJ.out.keep (Or.inr HAH.out),HBW.out.after hHeld.2.2.2⟩
        case measure=>simp [intOf];omega
  · obtain rfl:k=n:=by omega
    rcases HJ.out with ⟨hno,rfl⟩ | ⟨i,rfl,hik,hso⟩
    · have H33:=held_of HBW.out.1 (show zE.size=33 from rfl) (by decide)
      have z1:allOne zE.toList=true:=by unfold zE zlit;simp [go_sem,allOne_nil,allOne_cons,one_int,one_bool,one_string,one_slice]
      go_wp2_with fail
      refine bodyPost_ret (res_row_tmp (n:=32) rfl Tryz.underlying27 rfl (by kernel_rfl) _ _ w.heap.size rfl (by rw[row_setRow H33];rfl)) rfl ?_
      rw[row_setRow H33]
      exact⟨Or.inl ⟨hno,rfl⟩,below_setRow HBW.out.2 (Nat.le_refl _) _⟩
    · have H33:=held_of HBW.out.1 (show zE.size=33 from rfl) (by decide)
      obtain⟨b,o,rfl,hb,a1,c1,a2,c2,hmid0,-,-,hgs⟩:=HES.out.2 i hik
      obtain⟨-,hg⟩:=hgs (HF.out i hik).2
      have hmid:=mid_below HBW.out.2 hmid0 (by rw[vals_size];decide)
      have hz:(mid wr b (o+i*33)).size=33:=by rw[hmid];exact vals_size _ _ _
      have hone:=vals_one (F i).e (.slice a1 (F i).n1 c1) (.slice a2 (F i).n2 c2) rfl rfl
      have i1:(0:Int)≤(i:Int):=by omega
      have i2:(i:Int)<(k:Int):=by omega
      have i3:¬ ((i:Int)<0):=by omega
      have HG:=Lib.hid hg
      have HSO:=Lib.hid hso
      clear hg hgs hso hmid0
      go_wp2_with fail
      refine bodyPost_ret (res_row_tmp (n:=32) rfl Tryz.underlying27 rfl (by kernel_rfl) _ _ w.heap.size rfl ((congrArg Array.size (row_setRow H33 _)).trans (vals_size (F i).e (.slice a1 (F i).n1 c1) _))) rfl ?_
      rw[row_setRow H33]
      have BB:=below_setRow HBW.out.2 (Nat.le_refl _) ((F i).e.vals (.slice a1 (F i).n1 c1) (.slice a2 (F i).n2 c2))
      exact⟨Or.inr ⟨F i,a1,c1,_,HSO.out,rfl,HG.out.below BB⟩,BB⟩
end Go.Proofs.YtlmgolkgodfmpaaGreatDoor
end
section
/- Contracts of the reference of chapter 34: Level. -/
namespace Go.Proofs.YtlmgolkgodfmpaaGreatDoor
open Go.RowKit
set_option maxHeartbeats 8000000
set_option maxRecDepth 8000
attribute [local go_sem ↓] ldEnt stEnt stEnt2
attribute [local go_sem] isHead_mk headOf_mk cellsOfV_mk isAggV_mk row_new row_new2 row_new2' row_drew row_drewN vals_size allOne_nil allOne_cons one_int one_bool one_string one_pointer one_slice one_func
theorem gmax_next (c:Gr→Bool) (l:List Gr) (k:Nat) (hk:k<l.length) (a:Int):gmax c (l.take (k+1)) a=if c l[k] then max (gmax c (l.take k) a) l[k].2.2 else gmax c (l.take k) a:=by
 rw[List.take_succ_eq_append_getElem hk,gmax_snoc]
theorem rlevel_no (v gv:Value) (u name:ByteArray) (w:World) (hn:Ds.name (Ds.bl name)=false) :
  Calls Tryz.prog 101 #[v,.string u,gv,.string name] w fun r w'=>r=.returned (.int .i64 0)∧Below w.heap.size w w':=by
 have hv:=fun W=>rds_Valid name W
 rw[hn] at hv
 have HV:=Lib.hid hv
 clear hv hn
 go_enter Tryz.func101,Tryz.ntmps101
 go_wp2_with (go_at_call 50;(with_reducible refine (HV.out _).mono ?_);rintro _ w2 ⟨rfl,hb⟩)
 go_ret
 exact⟨rfl,hb⟩
theorem rlevel_me (v gv:Value) (u name:ByteArray) (w:World) (hn:Ds.name (Ds.bl name)=true) (h1:Ds.first 1 (Ds.bl name)=Ds.bl u) :
  Calls Tryz.prog 101 #[v,.string u,gv,.string name] w fun r w'=>r=.returned (.int .i64 3)∧Below w.heap.size w w':=by
 have hv:=fun W=>rds_Valid name W
 have hf:=fun W=>rds_first 1 name W
 have e1:=first_eq (Ds.first 1 (Ds.bl name)) u
 rw[decide_eq_true h1] at e1
 generalize Ds.first 1 (Ds.bl name)=fl at hf e1
 rw[hn] at hv
 have HV:=Lib.hid hv
 have HF:=Lib.hid hf
 clear hv hn hf h1
 go_enter Tryz.func101,Tryz.ntmps101
 go_wp2_with (first | (go_at_call 50;(with_reducible refine (HV.out _).mono ?_);rintro _ w2 ⟨rfl,hb⟩;have B:=hb;clear hb) | (go_at_call 173;(with_reducible refine (HF.out _).mono ?_);rintro _ w2 ⟨rfl,hb⟩;have B:=bt B hb;clear hb))
 go_ret
 exact⟨rfl,B⟩
theorem own3_t {x:Ef} {u:ByteArray} (h1:u.toList.isEmpty=false) (h2:(x.e.owner.toList==u.toList)=true):own3 x u=true:=by
 unfold own3
 rw[tl_beq] at h2
 rw[h2,Bool.and_true,decide_eq_true_eq]
 intro e;rw[e] at h1;exact absurd h1 (by rw[isEmpty_nil _ rfl];simp)
theorem own3_e {x:Ef} {u:ByteArray} (h1:u.toList.isEmpty=true):own3 x u=false:=by
 have:u=⟨#[]⟩:=by
  rcases Nat.eq_zero_or_pos u.size with h | h
  · exact emp_of u h
  · rw[isEmpty_of u h] at h1;cases h1
 unfold own3;rw[decide_eq_false (fun h=>h this)];rfl
theorem own3_f {x:Ef} {u:ByteArray} (h2:(x.e.owner.toList==u.toList)=false):own3 x u=false:=by
 unfold own3;rw[tl_beq] at h2;rw[h2,Bool.and_false]
theorem own_cases (x:Ef) (u:ByteArray):u.toList.isEmpty=true∨(u.toList.isEmpty=false∧(x.e.owner.toList==u.toList)=true)∨(u.toList.isEmpty=false∧(x.e.owner.toList==u.toList)=false):=by
 cases u.toList.isEmpty <;> cases (x.e.owner.toList==u.toList) <;> simp
theorem isU_f {u:ByteArray} {gw:ByteArray} {gg:Bool} {gl:Int} (h:gg=true∨gw≠u):isU u (gw,gg,gl)=false:=by
 unfold isU
 rcases h with rfl | h
 · rfl
 · rw[decide_eq_false h,Bool.and_false]
theorem rlevel34 (a:Option Addr) (n c:Nat) (F:Nat→Ef) (u name:ByteArray) (gv:Value) (gl:List ByteArray) (w:World) (hES:ES w a n F) (hn:n≤1000) (hF:∀ k,k<n→(F k).e.name.size≤60∧(F k).n2≤1000) (hgl:SS w gv gl) :
  Calls Tryz.prog 101 #[.slice a n c,.string u,gv,.string name] w fun r w'=>r=.returned (.int .i64 (lvl (lst F n) u gl name))∧Below w.heap.size w w':=by
 cases hnm:Ds.name (Ds.bl name)
 · have e:lvl (lst F n) u gl name=0:=by unfold lvl;rw[hnm];rfl
   rw[e]
   exact rlevel_no _ _ _ _ _ hnm
 by_cases h1:Ds.first 1 (Ds.bl name)=Ds.bl u
 · rw[lvl_yes _ _ _ _ hnm,if_pos h1]
   exact rlevel_me _ _ _ _ _ hnm h1
 have hbm:∀ x,best (Ds.bl name) (lst F n)=some x→okQ x=true:=fun x hx=>(hits_ok (best_hit hx).2).2.1
 have hA0:best (Ds.bl name) (lst F n)=none→lvl (lst F n) u gl name=0:=fun h=>by rw[lvl_yes _ _ _ _ hnm,if_neg h1,h]
 have hA1:∀ x,best (Ds.bl name) (lst F n)=some x→lvl (lst F n) u gl name=plvl x u gl:=fun x h=>by rw[lvl_yes _ _ _ _ hnm,if_neg h1,h]
 generalize lvl (lst F n) u gl name=A at hA0 hA1 ⊢
 have HA0:=Lib.hid hA0
 have HA1:=Lib.hid hA1
 have HBM:=Lib.hid hbm
 clear hA0 hA1 hbm
 have hv:=fun W=>rds_Valid name W
 have hf:=fun W=>rds_first 1 name W
 have e1:=first_eq (Ds.first 1 (Ds.bl name)) u
 rw[decide_eq_false h1] at e1
 generalize Ds.first 1 (Ds.bl name)=fl at hf e1
 rw[hnm] at hv
 have hbest:=fun W (b:Below w.heap.size w W)=>rbest a n c F name W (hES.below b) hn hF
 have HV:=Lib.hid hv
 have HF:=Lib.hid hf
 have HB:=Lib.hid hbest
 have HGL:=Lib.hid hgl
 have z1:allOne zE.toList=true:=by unfold zE zlit;simp [go_sem,allOne_nil,allOne_cons,one_int,one_bool,one_string,one_slice]
 have z2:zE.size=33:=rfl
 clear hv hnm hf h1 hbest hES hF hgl
 go_enter Tryz.func101,Tryz.ntmps101
 go_wp2_with (first
  | (go_at_call 50;(with_reducible refine (HV.out _).mono ?_);rintro _ w1 ⟨rfl,hb⟩;have B:=hb;clear hb)
  | (go_at_call 173;(with_reducible refine (HF.out _).mono ?_);rintro _ w2 ⟨rfl,hb⟩;have B:=bt B hb;clear hb)
  | (go_at_call 174;(refine (HB.out _ B).mono ?_);rintro _ w3 ⟨hr,hb⟩;have B:=bt B hb;have z3:=B.size;clear hb;rcases hr with ⟨hso,rfl⟩ | ⟨x,a1,k1,gr,hso,rfl,hgs⟩;rotate_left 1;have HGS:=Lib.hid hgs;have hone:=vals_one x.e (.slice a1 x.n1 k1) gr rfl (gs_one hgs);have HX:=Lib.hid (HBM.out x hso);have HPL:=Lib.hid (HA1.out x hso);obtain⟨ga2,gc2,rfl,hzg,-⟩:=id hgs;clear hgs hso;have R0:=row_new w3 (x.e.vals (.slice a1 x.n1 k1) (.slice ga2 x.gs.length gc2)) 27 (0,0);have v8:=cell_row R0 28 _ (vals_28 x.e _ _);rcases own_cases x u with qe | ⟨qe,qo⟩ | ⟨qe,qo⟩))
 rotate_left 1
 · go_ret
   exact⟨by rw[HPL.out,pl3 x u gl (own3_t qe qo)];rfl,by exact belA⟩
 rotate_left 1
 · go_ret
   exact⟨by rw[HA0.out hso];rfl,by exact belA⟩
 all_goals
  have HO:Hid (own3 x u=false):=Lib.hid (by first | exact own3_e (by assumption) | exact own3_f (by assumption))
  clear v8
  go_loopw [11,12] (fun bv i wr=>∃ k:Nat,k≤x.gs.length∧i=.int .i64 k∧bv=.int .i64 (gmax (isG gl) (x.gs.take k) (-1))∧(x.gs.take k).any (isU u)=false∧row wr w3.heap.size=x.e.vals (.slice a1 x.n1 k1) (.slice ga2 x.gs.length gc2)∧Below w3.heap.size w3 wr) (fun _ i _=>x.gs.length - (intOf i).toNat)
  case atStart=>exact⟨0,Nat.zero_le _,rfl,rfl,rfl,R0,by exact belA⟩
  case round =>
   clear R0
   obtain⟨k,hk,rfl,rfl,hno,R,B3⟩:=hrel
   have v32:=cell_row R 32 _ (vals_32 x.e _ _)
   have z0:=B3.size
   by_cases hlt:k<x.gs.length
   · obtain⟨b,o,rfl,p⟩:=GS.at (HGS.out.below B3) (by omega)
     obtain⟨p0,p1,p2⟩:=p k hlt
     have E1:=Lib.hid (gmax_next (isG gl) x.gs k hlt (-1))
     have E2:Hid ((x.gs.take (k+1)).any (isU u)=isU u x.gs[k]):=Lib.hid (by rw[List.take_succ_eq_append_getElem hlt,any_snoc,hno,Bool.false_or])
     have EO:Hid (isU u x.gs[k]=true→plvl x u gl=x.gs[k].2.2):=Lib.hid (fun h=>plvl_own x HX.out u gl HO.out k hlt h)
     generalize gmax (isG gl) (x.gs.take k) (-1)=m at E1 ⊢
     generalize x.gs[k]=g at p0 p1 p2 E1 E2 EO
     obtain⟨gw,gg,glv⟩:=g
     simp only at p0 p1 p2
     clear p hno
     have RB:∀ W,Below wr.heap.size wr W→row W w3.heap.size=x.e.vals (.slice a1 x.n1 k1) (.slice (some ⟨b,o,none⟩) x.gs.length gc2):=fun W hb=>row_below hb R (by rw[vals_size];decide)
     have HRB:=Lib.hid RB
     clear RB
     cases gg
     · have hq:=tl_beq gw u
       by_cases hu:gw=u
       · rw[decide_eq_true hu] at hq
         have HE:Hid (plvl x u gl=glv):=Lib.hid (EO.out (by unfold isU;rw[decide_eq_true hu];rfl))
         clear hu
         go_wp2_with fail
         go_ret
         exact⟨by rw[HPL.out,HE.out];rfl,bt B (by exact belA)⟩
       · rw[decide_eq_false hu] at hq
         have HN:=Lib.hid (E2.out.trans (isU_f (Or.inr hu)))
         clear hu
         go_wp2_with fail
         go_roundw
         case rel=>exact⟨k+1,by omega,by go_num,by rw[E1.out];rfl,HN.out,HRB.out _ (by exact belA),by exact belA⟩
         case measure=>simp [intOf];omega
     · have hh:=fun W (bb:Below w3.heap.size w3 W)=>rhas gv gl gw W (HGL.out.below (bt B bb))
       have HN:=Lib.hid (E2.out.trans (isU_f (Or.inl rfl)))
       have HG:Hid (isG gl (gw,true,glv)=gl.any (fun a=>decide (a=gw))):=Lib.hid rfl
       cases hg:gl.any (fun a=>decide (a=gw))
       · rw[hg] at hh HG
         have HH:=Lib.hid hh
         clear hh hg
         go_wp2_with (go_at_call 175;(with_reducible refine (HH.out _ (by exact belA)).mono ?_);rintro _ w5 ⟨rfl,rfl⟩)
         go_roundw
         case rel=>exact⟨k+1,by omega,by go_num,by rw[E1.out,HG.out];rfl,HN.out,HRB.out _ (by exact belA),by exact belA⟩
         case measure=>simp [intOf];omega
       · rw[hg] at hh HG
         have HH:=Lib.hid hh
         clear hh hg
         go_wp2_with (go_at_call 175;(with_reducible refine (HH.out _ (by exact belA)).mono ?_);rintro _ w5 ⟨rfl,rfl⟩)
         go_roundw
         case rel=>exact⟨k+1,by omega,by go_num,by rw[E1.out,HG.out];rfl,HN.out,HRB.out _ (by exact belA),by exact belA⟩
         case measure=>simp [intOf];omega
   · obtain rfl:k=x.gs.length:=by omega
     rw[List.take_length] at hno ⊢
     have HE:=Lib.hid (HPL.out.trans (plvl_ref x HX.out u gl HO.out hno))
     have v31:=cell_row R 31 _ (vals_31 x.e _ _)
     clear hno
     generalize gmax (isG gl) x.gs (-1)=m at HE ⊢
     by_cases h0:0≤m
     · go_wp2_with fail
       go_ret
       exact⟨by rw[HE.out,if_pos h0];rfl,bt B B3⟩
     · go_wp2_with fail
       go_ret
       exact⟨by rw[HE.out,if_neg (by omega)];rfl,bt B B3⟩
end Go.Proofs.YtlmgolkgodfmpaaGreatDoor
end
