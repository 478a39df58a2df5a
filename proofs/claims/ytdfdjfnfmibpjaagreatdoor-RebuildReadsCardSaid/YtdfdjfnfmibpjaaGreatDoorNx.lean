/- Several texts in one: Nx NxR Pu PuR. -/
import Derived.Test.YtdfdjfnfmibpjaaGreatDoorGt
import Derived.Test.YtdfdjfnfmibpjaaGreatDoorNp
import Derived.Test.YtdfdjfnfmibpjaaGreatDoorNg
import Derived.Test.YtdfdjfnfmibpjaaGreatDoorAcA
section
/- Contracts of package rebuild: noteIn, NoteOf; the same in plain words. -/
namespace Go.Proofs.YtdfdjfnfmibpjaaGreatDoor
open Go.RowKit
set_option maxHeartbeats 8000000
set_option maxRecDepth 8000
def splZ (s:ByteArray):ByteArray:=⟨(Ds.splG (Ds.bl s)).toArray⟩
def noteC (x g:Fu):ByteArray × Int:=(noteS x g,if noteOk x g=true then 0 else 1)
def noteInF (l:List Rw) (fl cd ca id:Int) (x:Fu):(ByteArray × Int) × Int :=
 if Ds.gen (Ds.bl x.1.name)=true then match getF l fl cd ca id 1 (splZ x.1.name) with
  | ((g,c),cb)=>if c≠0 then ((⟨#[]⟩,c),cb) else (noteC x g,cb)
 else (noteC x zF0,ca)
def noteOfF (l:List Rw) (fl cd ca:Int) (name:ByteArray):(ByteArray × Int) × Int:=match mfindF l fl cd ca name with
 | ((x,id,c),cb)=>if c≠0 then ((⟨#[]⟩,c),cb) else if x.1.kind≠0 then ((⟨#[]⟩,7),cb) else noteInF l fl cd cb id x
def noteInR (l:List Rw) (id:Int) (x:Fu):ByteArray × Int :=
 if Ds.gen (Ds.bl x.1.name)=true then match getR l id 1 (splZ x.1.name) with
  | (g,c)=>if c≠0 then (⟨#[]⟩,c) else noteC x g
 else noteC x zF0
def noteOfR (l:List Rw) (name:ByteArray):ByteArray × Int:=match mfindR l name with
 | (x,id,c)=>if c≠0 then (⟨#[]⟩,c) else if x.1.kind≠0 then (⟨#[]⟩,7) else noteInR l id x
theorem noteInF_no (l:List Rw) (fl cd ca id:Int) (x:Fu) (hf:fl≤0) (h0:0≤ca):(noteInF l fl cd ca id x).1=noteInR l id x:=by
 unfold noteInF noteInR
 split
 · have e:=getF_no l fl cd ca id 1 (splZ x.1.name) hf h0
   rw[← e]
   generalize getF l fl cd ca id 1 (splZ x.1.name)=g
   obtain⟨⟨y,c⟩,cb⟩:=g
   dsimp only
   split <;> rfl
 · rfl
theorem mfindF_ca (l:List Rw) (fl cd ca:Int) (name:ByteArray):ca≤(mfindF l fl cd ca name).2∧(mfindF l fl cd ca name).2≤ca+8:=by
 have h1:=whereF_ca l fl cd ca name
 unfold mfindF mfinF
 generalize whereF l fl cd ca name=g at h1
 obtain⟨⟨id,c⟩,cb⟩:=g
 dsimp only at h1 ⊢
 split
 · exact⟨h1.1,by show cb≤_;omega⟩
 have h2:=findF_ca l fl cd cb id name
 generalize findF l fl cd cb id name=g at h2
 obtain⟨⟨x,c1⟩,cc⟩:=g
 dsimp only at h2 ⊢
 split
 · exact⟨by show ca≤cc;omega,by show cc≤_;omega⟩
 split
 · exact⟨by show ca≤cc;omega,by show cc≤_;omega⟩
 have h3:=findF_ca l fl cd cc id x.1.target
 generalize findF l fl cd cc id x.1.target=g at h3
 obtain⟨⟨y,c2⟩,ce⟩:=g
 dsimp only at h3 ⊢
 split
 · exact⟨by show ca≤ce;omega,by show ce≤_;omega⟩
 split
 · exact⟨by show ca≤ce;omega,by show ce≤_;omega⟩
 · exact⟨by show ca≤ce;omega,by show ce≤_;omega⟩
theorem noteOfF_no (l:List Rw) (fl cd ca:Int) (name:ByteArray) (hf:fl≤0) (h0:0≤ca):(noteOfF l fl cd ca name).1=noteOfR l name:=by
 have e:=mfindF_no l fl cd ca name hf h0
 have h:=mfindF_ca l fl cd ca name
 unfold noteOfF noteOfR
 rw[← e]
 generalize mfindF l fl cd ca name=g at h
 obtain⟨⟨x,id,c⟩,cb⟩:=g
 dsimp only at h ⊢
 split
 · rfl
 split
 · rfl
 · exact noteInF_no l fl cd cb id x hf (by omega)
def shortN (x:Fu):Prop:=x.1.name.size≤60
theorem short_z:shortN zF0:=by show (0:Nat)≤60;omega
theorem readF_short (key s:ByteArray):shortN (readF key s).1:=by
 unfold readF
 cases h:decX (Ds.bl s) with
 | none=>exact short_z
 | some y =>
   dsimp only
   split
   · have:=(okX_name y (decX_sound _ _ h).1).1
     rw[Ds.bl_length] at this
     exact Nat.le_trans this (by decide)
   · exact short_z
theorem getF_short (l:List Rw) (fl cd ca id kind:Int) (name:ByteArray):shortN (getF l fl cd ca id kind name).1.1:=by
 unfold getF
 split
 · exact short_z
 split
 · exact short_z
 split
 · exact short_z
 · exact readF_short _ _
theorem findL_short (l:List Rw) (fl cd id:Int) (name:ByteArray):∀ (ks:List Int) (ca:Int),shortN (findL l fl cd id name ks ca).1.1
 | [],_=>short_z
 | k::ks,ca=>by
   unfold findL
   split
   · exact findL_short l fl cd id name ks _
   · exact getF_short _ _ _ _ _ _ _
theorem findF_short (l:List Rw) (fl cd ca id:Int) (name:ByteArray):shortN (findF l fl cd ca id name).1.1:=by
 unfold findF
 split
 · exact short_z
 · exact findL_short _ _ _ _ _ _ _
theorem mfindF_short (l:List Rw) (fl cd ca:Int) (name:ByteArray):shortN (mfindF l fl cd ca name).1.1:=by
 unfold mfindF mfinF
 generalize whereF l fl cd ca name=g
 obtain⟨⟨id,c⟩,cb⟩:=g
 dsimp only
 split
 · exact short_z
 have h2:=findF_short l fl cd cb id name
 generalize findF l fl cd cb id name=g at h2
 obtain⟨⟨x,c1⟩,cc⟩:=g
 dsimp only at h2 ⊢
 split
 · exact short_z
 split
 · exact h2
 have h3:=findF_short l fl cd cc id x.1.target
 generalize findF l fl cd cc id x.1.target=g at h3
 obtain⟨⟨y,c2⟩,ce⟩:=g
 dsimp only at h3 ⊢
 split
 · exact short_z
 split
 · exact short_z
 · exact h3
theorem is_grown {w w':World} {p:Nat} {al:Value} {l:List Int} (h:IS w al l) (hg:w.grownBy w' (some p)) (ho:∀ q,al.ownBlock=some q→p<q):IS w' al l :=
 h.keep (p+1) (fun q hq=>ho q hq) hg.size (fun k hk hl=>hg.block k hl (fun e=>by have:=Option.some.inj e;omega))
theorem gs_grown {w w':World} {p:Nat} {al:Value} {l:List Gr} (h:GS w al l) (hg:w.grownBy w' (some p)) (ho:∀ q,al.ownBlock=some q→p<q):GS w' al l :=
 h.keep (p+1) (fun q hq=>ho q hq) hg.size (fun k hk hl=>hg.block k hl (fun e=>by have:=Option.some.inj e;omega))
theorem row_grownP {w w':World} {p b:Nat} {cs:Array Value} (h:row w b=cs) (h0:0<cs.size) (hg:w.grownBy w' (some p)) (hne:b≠p):row w' b=cs:=by
 have hb:b<w.heap.size:=by
  rcases Nat.lt_or_ge b w.heap.size with h1 | h1
  · exact h1
  · exfalso
    unfold row at h
    rw[Array.getElem?_eq_none h1] at h
    subst h
    simp at h0
 unfold row at *
 rw[hg.block b hb (fun e=>hne (Option.some.inj e))]
 exact h
attribute [local go_sem ↓] ldEnt stEnt stEntRow bldEnt
attribute [local go_sem] Held_drew isHead_mk headOf_mk offOf_mk isPtr_mk cellsOfV_mk isAggV_mk row_new row_new2 row_new2' row_drew row_drewN vals_size allOne_nil allOne_cons one_int one_bool one_string one_pointer one_slice one_func vals_0 vals_1
theorem is_own_lt {w:World} {v:Value} {l:List Int} (h:IS w v l) (h0:l≠[]) (b:Nat) (hb:v.ownBlock=some b):b<w.heap.size:=by
 obtain⟨a,c,rfl,hz,hc⟩:=h
 obtain⟨b',o',ha,hl,-⟩:=hc (List.length_pos_iff.2 h0)
 rw[ha] at hb
 cases hb;exact hl
theorem gs_own_lt' {w:World} {v:Value} {l:List Gr} (h:GS w v l) (h0:l≠[]) (b:Nat) (hb:v.ownBlock=some b):b<w.heap.size:=by
 obtain⟨a,c,rfl,hz,hc⟩:=h
 obtain⟨b',o',ha,hl,-⟩:=hc (List.length_pos_iff.2 h0)
 rw[ha] at hb
 cases hb;exact hl
theorem re_noteC (x g:Fu) (al gr al2 gr2:Value) (w:World) (hm:MaxL w) (hT:Tab w) (hxs:x.1.name.size≤1000) (hgs:g.1.name.size≤1000) (h1:IS w al x.2.1) (h2:GS w gr x.2.2) (h3:IS w al2 g.2.1) (h4:GS w gr2 g.2.2) :
  Calls Tryz.prog 104 #[.agg (x.1.vals al gr),.agg (g.1.vals al2 gr2)] w fun r w'=>r=.returned (.tuple #[.string (noteC x g).1,.int .i64 (noteC x g).2])∧Below w.heap.size w w':=re_note x g al gr al2 gr2 w hm hT hxs hgs h1 h2 h3 h4
theorem nt_in (p:Nat) (sv:Value) (l:List Rw) (fl cd ca id:Int) (x:Fu) (al gr:Value) (w0 w:World) (hm:MaxL w0) (hT:Tab w0) (hS:SHs w0 w p sv l fl cd ca) (hc0:0≤ca) (hc1:ca≤90000) (hcd:cd≠0∨fl≤0) (hx:shortN x) (hI:IS w al x.2.1) (hGr:GS w gr x.2.2) (o1:∀ q,al.ownBlock=some q→p<q) (o2:∀ q,gr.ownBlock=some q→p<q) :
  Calls Tryz.prog 108 #[.iface 45 (.pointer (some ⟨p,0,none⟩)),.int .i64 id,.agg (x.1.vals al gr)] w fun r w'=>r=.returned (.tuple #[.string (noteInF l fl cd ca id x).1.1,.int .i64 (noteInF l fl cd ca id x).1.2])∧SHs w0 w' p sv l fl cd (noteInF l fl cd ca id x).2∧w.grownBy w' (some p):=by
 have a1:=vals_one x.1 al gr (is_one hI) (gs_one hGr)
 have HS:=Lib.hid hS
 have hpl:=hS.pl
 have hsn:x.1.name.size≤1000:=Nat.le_trans hx (by decide)
 have HP:=Lib.hid (fun W (b:Below w0.heap.size w0 W)=>nw_group x.1.name W hsn (hm.below b))
 have HI:=Lib.hid hI
 have HGR:=Lib.hid hGr
 have R0:=row_new2 w (x.1.vals al gr) 27 (0,0) (.cells (zlit 0 ⟨#[]⟩) 27)
 have Q0:=row_new2' w (zlit 0 ⟨#[]⟩) 27 (0,0) (.cells (x.1.vals al gr) 27)
 unfold zlit at R0 Q0
 have HR0:=Lib.hid R0
 have HQ0:=Lib.hid Q0
 clear hI hGr R0 Q0
 generalize hg:noteInF l fl cd ca id x=g
 unfold noteInF at hg
 cases hgen:Ds.gen (Ds.bl x.1.name)
 · rw[if_neg (by rw[hgen];simp)] at hg
   subst hg
   rw[hgen] at HP
   have hn:=fun W (b:Below w0.heap.size w0 W) (b2:Below w.heap.size w W)=>re_noteC x zF0 al gr (.slice none 0 0) (.slice none 0 0) W (hm.below b) (hT.below b) hsn (Nat.le_trans short_z (by decide)) (HI.out.below b2) (HGR.out.below b2) (IS.nil _) (GS.nil _)
   rw[show zF0.1.vals (.slice none 0 0) (.slice none 0 0)=zlit 0 ⟨#[]⟩ from (zlit_eq 0 ⟨#[]⟩).symm] at hn
   unfold zlit at hn
   generalize noteC x zF0=nc at hn ⊢
   obtain⟨ns,nc⟩:=nc
   have HN:=Lib.hid hn
   clear hn hgen
   go_enter Tryz.func108,Tryz.ntmps108
   go_wp2_with (first
    | (go_at_call 112;(refine (HP.out _ (HS.out.below (below2' _ _ _)).b).mono ?_);rintro _ w2 ⟨rfl,hb⟩;have B2:=Lib.hid (bt (below2' _ _ _) hb);have S2:=Lib.hid (HS.out.below B2.out);have R2:=row_below hb HR0.out (by rw[vals_size];decide);have Q2:=row_below hb HQ0.out (by decide);clear hb)
    | (go_at_call 104;(refine (HN.out _ S2.out.b B2.out).mono ?_);rintro _ w3 ⟨rfl,hb⟩;have B3:=Lib.hid (bt B2.out hb);clear hb))
   go_ret2
   exact⟨rfl,HS.out.below B3.out,grown_of_below _ B3.out⟩
 rw[if_pos hgen] at hg
 rw[hgen] at HP
 have hne:(some p:Option Nat)≠some (w.heap.size+1):=fun e=>by have:=Option.some.inj e;omega
 have n0:w.heap.size≠p:=by omega
 have HH:=Lib.hid (hz_b w 27 (.cells (x.1.vals al gr) 27))
 unfold splZ at hg
 generalize (⟨(Ds.splG (Ds.bl x.1.name)).toArray⟩:ByteArray)=sg at HP hg
 have hget:=fun W (h:SHs w0 W p sv l fl cd ca)=>cat_get p sv l fl cd ca id 1 sg w0 W hm hT h hc0 (by omega) hcd
 have hsh:=getF_short l fl cd ca id 1 sg
 generalize getF l fl cd ca id 1 sg=gg at hget hsh hg
 obtain⟨⟨y,code⟩,cb⟩:=gg
 dsimp only at hsh hg
 have HGE:=Lib.hid hget
 clear hget hgen
 by_cases h0:code=0
 rotate_left
 · rw[if_pos h0] at hg
   subst hg
   have t1:(code != 0)=true:=by rw[bne_iff_ne];exact h0
   clear h0
   go_enter Tryz.func108,Tryz.ntmps108
   go_wp2_with (first
    | (go_at_call 112;(refine (HP.out _ (HS.out.below (below2' _ _ _)).b).mono ?_);rintro _ w2 ⟨rfl,hb⟩;have B2:=Lib.hid (bt (below2' _ _ _) hb);have S2:=Lib.hid (HS.out.below B2.out);clear hb)
    | (go_at_call 31;(refine (HGE.out _ S2.out).mono ?_);rintro _ w3 ⟨⟨al2,gr2,rfl,hI,hGs,hf1,hf2⟩,hs3,hg3⟩;have hone:=vals_one y.1 al2 gr2 (is_one hI) (gs_one hGs);have S3:=Lib.hid hs3;have G3:=Lib.hid hg3;clear hI hGs hf1 hf2 hs3 hg3))
   go_ret2
   exact⟨rfl,S3.out.below (below_al' _ _),grown_bel (grown_tr (grown_of_below _ B2.out) G3.out) ((below_al' _ _).mono (by have:=(grown_tr (grown_of_below _ B2.out) G3.out).size;omega))⟩
 rw[if_neg (fun h=>h h0)] at hg
 subst h0 hg
 have hn:=fun W al2 gr2 (b:Below w0.heap.size w0 W) i1 i2 i3 i4=>re_noteC x y al gr al2 gr2 W (hm.below b) (hT.below b) hsn (Nat.le_trans hsh (by decide)) i1 i2 i3 i4
 generalize noteC x y=nc at hn ⊢
 obtain⟨ns,nc⟩:=nc
 have HN:=Lib.hid hn
 clear hn
 go_enter Tryz.func108,Tryz.ntmps108
 go_wp2_with (first
  | (go_at_call 112;(refine (HP.out _ (HS.out.below (below2' _ _ _)).b).mono ?_);rintro _ w2 ⟨rfl,hb⟩;have B2:=Lib.hid (bt (below2' _ _ _) hb);have S2:=Lib.hid (HS.out.below B2.out);have R2:=row_below hb HR0.out (by rw[vals_size];decide);have H2:=HH.out.below hb;have z2:w.heap.size+1+1≤w2.heap.size:=(by have:=hb.size;simpa using this);clear hb)
  | (go_at_call 31;(refine (HGE.out _ S2.out).mono ?_);rintro _ w3 ⟨⟨al2,gr2,rfl,hI2,hGs2,hf1,hf2⟩,hs3,hg3⟩;have hone:=vals_one y.1 al2 gr2 (is_one hI2) (gs_one hGs2);have S3:=Lib.hid hs3;have G3:=Lib.hid hg3;have HI2:=Lib.hid hI2;have HG2:=Lib.hid hGs2;have HF1:=Lib.hid hf1;have HF2:=Lib.hid hf2;have z3:=hg3.size;have H3:=held_a w3 (.cells (y.1.vals al2 gr2) 27) _ _ (H2.grown hg3 hne);have R3:=row_new w3 (y.1.vals al2 gr2) 27 (0,0);have K3:=row_p (w3.alloc (.cells (y.1.vals al2 gr2) 27)) (y.1.vals al2 gr2) (w.heap.size+1) H3;have L3:=(row_set_ne (w3.alloc (.cells (y.1.vals al2 gr2) 27)) w.heap.size (w.heap.size+1) (y.1.vals al2 gr2) (by omega)).trans (row_below (below_al' w3 (.cells (y.1.vals al2 gr2) 27)) (row_grownP R2 (by rw[vals_size];decide) hg3 n0) (by rw[vals_size];decide));clear hI2 hGs2 hf1 hf2 hs3 hg3)
  | (go_at_call 104;have b6:=K3;clear b6;(refine (HN.out _ al2 gr2 (Below.trans (b:=w3.alloc (.cells (y.1.vals al2 gr2) 27)) (S3.out.below (below_al' _ _)).b (below_setRow (Below.refl _ _) (by have:=S2.out.p0;omega) _)) (is_put (((is_grown (HI.out.below B2.out) G3.out o1)).below (below_al' _ _)) (fun q hq h0=>by have:=is_own_lt HI.out h0 q hq;omega)) (gs_put (((gs_grown (HGR.out.below B2.out) G3.out o2)).below (below_al' _ _)) (fun q hq h0=>by have:=gs_own_lt' HGR.out h0 q hq;omega)) (is_put (HI2.out.below (below_al' _ _)) (fun q hq _=>by have:=HF1.out q hq;omega)) (gs_put (HG2.out.below (below_al' _ _)) (fun q hq _=>by have:=HF2.out q hq;omega))).mono ?_);rintro _ w4 ⟨rfl,hb4⟩;have B4:=Lib.hid hb4;clear hb4))
 go_ret2
 have hb5:Below w.heap.size (w3.alloc (.cells (y.1.vals al2 gr2) 27)) w4:=(below_setRow (Below.refl _ _) (Nat.le_succ _) _).trans (B4.out.mono (by simp;omega))
 exact⟨rfl,(S3.out.below (below_al' _ _)).belowB hb5 hpl (fun h b hb=>rws_own_lt HS.out.r h b hb),grown_bel (grown_bel (grown_tr (grown_of_below _ B2.out) G3.out) ((below_al' _ _).mono (by omega))) hb5⟩
theorem nt_of (p:Nat) (sv:Value) (l:List Rw) (fl cd ca:Int) (name:ByteArray) (w0 w:World) (hm:MaxL w0) (hT:Tab w0) (hS:SHs w0 w p sv l fl cd ca) (hc0:0≤ca) (hc1:ca≤60000) (hcd:cd≠0∧cd≠6∨fl≤0) :
  Calls Tryz.prog 40 #[.iface 45 (.pointer (some ⟨p,0,none⟩)),.string name] w fun r w'=>r=.returned (.tuple #[.string (noteOfF l fl cd ca name).1.1,.int .i64 (noteOfF l fl cd ca name).1.2])∧SHs w0 w' p sv l fl cd (noteOfF l fl cd ca name).2∧w.grownBy w' (some p):=by
 have HS:=Lib.hid hS
 have hpl:=hS.pl
 have hcd2:cd≠0∨fl≤0:=by omega
 have hfi:=ma_find p sv l fl cd ca name w0 w hm hT hS hc0 hc1 hcd
 have hca:=mfindF_ca l fl cd ca name
 have hsh:=mfindF_short l fl cd ca name
 generalize hg:noteOfF l fl cd ca name=g
 unfold noteOfF at hg
 generalize mfindF l fl cd ca name=gg at hfi hca hsh hg
 obtain⟨⟨x,id,c⟩,cb⟩:=gg
 dsimp only at hfi hca hsh hg
 have HF:=Lib.hid hfi
 have HN:=Lib.hid (fun W al gr h i1 i2 o1 o2=>nt_in p sv l fl cd cb id x al gr w0 W hm hT h (by omega) (by omega) hcd2 hsh i1 i2 o1 o2)
 clear hfi hcd hcd2 hm hT hS
 by_cases h0:c=0
 rotate_left
 · rw[if_pos h0] at hg
   subst hg
   have t1:(c != 0)=true:=by rw[bne_iff_ne];exact h0
   clear h0
   go_enter Tryz.func40,Tryz.ntmps40
   go_wp2_with (go_at_call 107;(refine HF.out.mono ?_);rintro _ w2 ⟨⟨al,gr,rfl,hI,hGs,hf1,hf2⟩,hs,hg2⟩;have hone:=vals_one x.1 al gr (is_one hI) (gs_one hGs);have S2:=Lib.hid hs;have G2:=Lib.hid hg2;clear hI hGs hf1 hf2 hs hg2)
   go_ret2
   exact⟨rfl,S2.out.below (below_al' _ _),grown_bel G2.out ((below_al' _ _).mono G2.out.size)⟩
 rw[if_neg (fun h=>h h0)] at hg
 subst h0
 by_cases hk:x.1.kind=0
 rotate_left
 · rw[if_pos hk] at hg
   subst hg
   have t2:(x.1.kind != 0)=true:=by rw[bne_iff_ne];exact hk
   clear hk
   go_enter Tryz.func40,Tryz.ntmps40
   go_wp2_with (go_at_call 107;(refine HF.out.mono ?_);rintro _ w2 ⟨⟨al,gr,rfl,hI,hGs,hf1,hf2⟩,hs,hg2⟩;have hone:=vals_one x.1 al gr (is_one hI) (gs_one hGs);have S2:=Lib.hid hs;have G2:=Lib.hid hg2;have R2:=row_new w2 (x.1.vals al gr) 27 (0,0);have N2:=cell_row R2 0 _ (vals_0 _ _ _);clear hI hGs hf1 hf2 hs hg2)
   go_ret2
   exact⟨rfl,S2.out.below (below_al' _ _),grown_bel G2.out ((below_al' _ _).mono G2.out.size)⟩
 rw[if_neg (fun h=>h hk)] at hg
 subst hg
 have t2:(x.1.kind != 0)=false:=by rw[hk];rfl
 clear hk
 generalize noteInF l fl cd cb id x=g at HN ⊢
 obtain⟨⟨ns,nc⟩,ce⟩:=g
 go_enter Tryz.func40,Tryz.ntmps40
 go_wp2_with (first
  | (go_at_call 107;(refine HF.out.mono ?_);rintro _ w2 ⟨⟨al,gr,rfl,hI,hGs,hf1,hf2⟩,hs,hg2⟩;have hone:=vals_one x.1 al gr (is_one hI) (gs_one hGs);have S2:=Lib.hid hs;have G2:=Lib.hid hg2;have R2:=row_new w2 (x.1.vals al gr) 27 (0,0);have N2:=cell_row R2 0 _ (vals_0 _ _ _);have HI:=Lib.hid hI;have HGS:=Lib.hid hGs;have HF1:=Lib.hid hf1;have HF2:=Lib.hid hf2;clear hI hGs hf1 hf2 hs hg2)
  | (go_at_call 108;(refine (HN.out _ al gr (S2.out.below (below_al' _ _)) (HI.out.below (below_al' _ _)) (HGS.out.below (below_al' _ _)) (fun q hq=>by have:=HF1.out q hq;omega) (fun q hq=>by have:=HF2.out q hq;omega)).mono ?_);rintro _ w3 ⟨rfl,hs3,hg3⟩;have S3:=Lib.hid hs3;have G3:=Lib.hid hg3;clear hs3 hg3))
 go_ret2
 exact⟨rfl,S3.out,grown_tr (grown_bel G2.out ((below_al' _ _).mono G2.out.size)) G3.out⟩
end Go.Proofs.YtdfdjfnfmibpjaaGreatDoor
end
section
/- Contract of the reference of chapter 37: NoteOf. -/
namespace Go.Proofs.YtdfdjfnfmibpjaaGreatDoor
open Go.RowKit
set_option maxHeartbeats 8000000
set_option maxRecDepth 8000
theorem getR_short (l:List Rw) (id kind:Int) (name:ByteArray):shortN (getR l id kind name).1:=getF_short _ _ _ _ _ _ _
theorem mfindR_short (l:List Rw) (name:ByteArray):shortN (mfindR l name).1:=by
 have h:=mfindF_short l 0 0 0 name
 rw[mfindF_no l 0 0 0 name (by decide) (by decide)] at h
 exact h
theorem rn_noteC (x g:Fu) (al gr al2 gr2:Value) (w:World) (hxs:x.1.name.size≤60) (hgs:g.1.name.size≤60) (h1:IS w al x.2.1) (h2:GS w gr x.2.2) (h3:IS w al2 g.2.1) (h4:GS w gr2 g.2.2) :
  Calls Tryz.prog 110 #[.agg (x.1.vals al gr),.agg (g.1.vals al2 gr2)] w fun r w'=>r=.returned (.tuple #[.string (noteC x g).1,.int .i64 (noteC x g).2])∧Below w.heap.size w w':=rn_note x g al gr al2 gr2 w hxs hgs h1 h2 h3 h4
attribute [local go_sem ↓] ldEnt stEnt stEntRow bldEnt
attribute [local go_sem] Held_drew isHead_mk headOf_mk offOf_mk isPtr_mk cellsOfV_mk isAggV_mk row_new row_new2 row_new2' row_drew row_drewN vals_size allOne_nil allOne_cons one_int one_bool one_string one_pointer one_slice one_func vals_0 vals_1
theorem r37_of (v:Value) (l:List Rw) (name:ByteArray) (w:World) (hl:RwS w v l) :
  Calls Tryz.prog 42 #[v,.string name] w fun r w'=>r=.returned (.tuple #[.string (noteOfR l name).1,.int .i64 (noteOfR l name).2])∧Below w.heap.size w w':=by
 have hfi:=r36_find v l name w hl
 have hsh:=mfindR_short l name
 generalize hg:noteOfR l name=g
 unfold noteOfR at hg
 generalize mfindR l name=gg at hfi hsh hg
 obtain⟨x,id,c⟩:=gg
 dsimp only at hfi hsh hg
 have HF:=Lib.hid hfi
 have HG:=Lib.hid (fun nm W (b:Below w.heap.size w W)=>r35_get v l id 1 nm W (hl.below b))
 clear hfi hl
 by_cases h0:c=0
 rotate_left
 · rw[if_pos h0] at hg
   subst hg
   have t1:(c != 0)=true:=by rw[bne_iff_ne];exact h0
   clear h0
   go_enter Tryz.func42,Tryz.ntmps42
   go_wp2_with (go_at_call 109;(refine HF.out.mono ?_);rintro _ w2 ⟨⟨al,gr,rfl,hI,hGs,hf1,hf2⟩,hb⟩;have hone:=vals_one x.1 al gr (is_one hI) (gs_one hGs);have B2:=Lib.hid hb;clear hI hGs hf1 hf2 hb)
   go_ret2
   exact⟨rfl,B2.out.alloc B2.out.size _⟩
 rw[if_neg (fun h=>h h0)] at hg
 subst h0
 by_cases hk:x.1.kind=0
 rotate_left
 · rw[if_pos hk] at hg
   subst hg
   have t2:(x.1.kind != 0)=true:=by rw[bne_iff_ne];exact hk
   clear hk
   go_enter Tryz.func42,Tryz.ntmps42
   go_wp2_with (go_at_call 109;(refine HF.out.mono ?_);rintro _ w2 ⟨⟨al,gr,rfl,hI,hGs,hf1,hf2⟩,hb⟩;have hone:=vals_one x.1 al gr (is_one hI) (gs_one hGs);have B2:=Lib.hid hb;have R2:=row_new w2 (x.1.vals al gr) 27 (0,0);have N2:=cell_row R2 0 _ (vals_0 _ _ _);clear hI hGs hf1 hf2 hb)
   go_ret2
   exact⟨rfl,B2.out.alloc B2.out.size _⟩
 rw[if_neg (fun h=>h hk)] at hg
 have t2:(x.1.kind != 0)=false:=by rw[hk];rfl
 have HP:=Lib.hid (fun W=>rds_split x.1.name W hsh)
 clear hk
 unfold noteInR at hg
 cases hgen:Ds.gen (Ds.bl x.1.name)
 · rw[if_neg (by rw[hgen];simp)] at hg
   subst hg
   rw[hgen] at HP
   have hn:=fun W al gr i1 i2=>rn_noteC x zF0 al gr (.slice none 0 0) (.slice none 0 0) W hsh short_z i1 i2 (IS.nil _) (GS.nil _)
   rw[show zF0.1.vals (.slice none 0 0) (.slice none 0 0)=zlit 0 ⟨#[]⟩ from (zlit_eq 0 ⟨#[]⟩).symm] at hn
   unfold zlit at hn
   generalize noteC x zF0=nc at hn ⊢
   obtain⟨ns,nc⟩:=nc
   have HN:=Lib.hid hn
   clear hn hgen
   go_enter Tryz.func42,Tryz.ntmps42
   go_wp2_with (first
    | (go_at_call 109;(refine HF.out.mono ?_);rintro _ w2 ⟨⟨al,gr,rfl,hI,hGs,hf1,hf2⟩,hb⟩;have hone:=vals_one x.1 al gr (is_one hI) (gs_one hGs);have B2:=Lib.hid hb;have R2:=row_new w2 (x.1.vals al gr) 27 (0,0);have N2:=cell_row R2 0 _ (vals_0 _ _ _);have R3:=row_new2 w2 (x.1.vals al gr) 27 (0,0) (.cells (zlit 0 ⟨#[]⟩) 27);have Q3:=row_new2' w2 (zlit 0 ⟨#[]⟩) 27 (0,0) (.cells (x.1.vals al gr) 27);unfold zlit at R3 Q3;have HI:=Lib.hid hI;have HGS:=Lib.hid hGs;clear hI hGs hf1 hf2 hb)
    | (go_at_call 52;(refine (HP.out _).mono ?_);rintro _ w3 ⟨rfl,hb⟩;have B3:=Lib.hid (bt (below2' _ _ _) hb);have R4:=row_below hb R3 (by rw[vals_size];decide);have Q4:=row_below hb Q3 (by decide);clear hb)
    | (go_at_call 110;(refine (HN.out _ al gr (HI.out.below B3.out) (HGS.out.below B3.out)).mono ?_);rintro _ w4 ⟨rfl,hb⟩;have B4:=Lib.hid (bt B3.out hb);clear hb))
   go_ret2
   exact⟨rfl,bt B2.out B4.out⟩
 rw[if_pos hgen] at hg
 rw[hgen] at HP
 unfold splZ at hg
 generalize (⟨(Ds.splG (Ds.bl x.1.name)).toArray⟩:ByteArray)=sg at HP hg
 have hget:=fun W (b:Below w.heap.size w W)=>HG.out sg W b
 have hsg:=getR_short l id 1 sg
 generalize getR l id 1 sg=gg at hget hsg hg
 obtain⟨y,code⟩:=gg
 dsimp only at hsg hg
 have HGE:=Lib.hid hget
 clear hget hgen
 by_cases h0:code=0
 rotate_left
 · rw[if_pos h0] at hg
   subst hg
   have t1:(code != 0)=true:=by rw[bne_iff_ne];exact h0
   clear h0
   go_enter Tryz.func42,Tryz.ntmps42
   go_wp2_with (first
    | (go_at_call 109;(refine HF.out.mono ?_);rintro _ w2 ⟨⟨al,gr,rfl,hI,hGs,hf1,hf2⟩,hb⟩;have hone:=vals_one x.1 al gr (is_one hI) (gs_one hGs);have B2:=Lib.hid hb;have R2:=row_new w2 (x.1.vals al gr) 27 (0,0);have N2:=cell_row R2 0 _ (vals_0 _ _ _);have R3:=row_new2 w2 (x.1.vals al gr) 27 (0,0) (.cells (zlit 0 ⟨#[]⟩) 27);unfold zlit at R3;clear hI hGs hf1 hf2 hb)
    | (go_at_call 52;(refine (HP.out _).mono ?_);rintro _ w3 ⟨rfl,hb⟩;have B3:=Lib.hid (bt (below2' _ _ _) hb);clear hb)
    | (go_at_call 85;(refine (HGE.out _ (bt B2.out B3.out)).mono ?_);rintro _ w4 ⟨⟨al2,gr2,rfl,hI2,hGs2,hf3,hf4⟩,hb⟩;have hone2:=vals_one y.1 al2 gr2 (is_one hI2) (gs_one hGs2);have B4:=Lib.hid (bt B3.out hb);clear hI2 hGs2 hf3 hf4 hb))
   go_ret2
   exact⟨rfl,bt B2.out (B4.out.alloc B4.out.size _)⟩
 rw[if_neg (fun h=>h h0)] at hg
 subst h0 hg
 have hn:=fun W al gr al2 gr2 i1 i2 i3 i4=>rn_noteC x y al gr al2 gr2 W hsh hsg i1 i2 i3 i4
 generalize noteC x y=nc at hn ⊢
 obtain⟨ns,nc⟩:=nc
 have HN:=Lib.hid hn
 clear hn
 go_enter Tryz.func42,Tryz.ntmps42
 go_wp2_with (first
  | (go_at_call 109;(refine HF.out.mono ?_);rintro _ w2 ⟨⟨al,gr,rfl,hI,hGs,hf1,hf2⟩,hb⟩;have hone:=vals_one x.1 al gr (is_one hI) (gs_one hGs);have B2:=Lib.hid hb;have R2:=row_new w2 (x.1.vals al gr) 27 (0,0);have N2:=cell_row R2 0 _ (vals_0 _ _ _);have R3:=row_new2 w2 (x.1.vals al gr) 27 (0,0) (.cells (zlit 0 ⟨#[]⟩) 27);have H3:=Lib.hid (hz_b w2 27 (.cells (x.1.vals al gr) 27));unfold zlit at R3;have HI:=Lib.hid hI;have HGS:=Lib.hid hGs;clear hI hGs hf1 hf2 hb)
  | (go_at_call 52;(refine (HP.out _).mono ?_);rintro _ w3 ⟨rfl,hb⟩;have B3:=Lib.hid (bt (below2' _ _ _) hb);have R4:=row_below hb R3 (by rw[vals_size];decide);have H4:=H3.out.below hb;have z3:w2.heap.size+1+1≤w3.heap.size:=(by have:=hb.size;simpa using this);clear hb)
  | (go_at_call 85;(refine (HGE.out _ (bt B2.out B3.out)).mono ?_);rintro _ w4 ⟨⟨al2,gr2,rfl,hI2,hGs2,hf3,hf4⟩,hb⟩;have hone2:=vals_one y.1 al2 gr2 (is_one hI2) (gs_one hGs2);have B4:=Lib.hid (bt B3.out hb);have HI2:=Lib.hid hI2;have HG2:=Lib.hid hGs2;have HF3:=Lib.hid hf3;have HF4:=Lib.hid hf4;have H5:=held_a w4 (.cells (y.1.vals al2 gr2) 27) _ _ (H4.below hb);have K5:=row_p (w4.alloc (.cells (y.1.vals al2 gr2) 27)) (y.1.vals al2 gr2) (w2.heap.size+1) H5;have L5:=(row_set_ne (w4.alloc (.cells (y.1.vals al2 gr2) 27)) w2.heap.size (w2.heap.size+1) (y.1.vals al2 gr2) (by omega)).trans (row_below (below_al' w4 (.cells (y.1.vals al2 gr2) 27)) (row_below hb R4 (by rw[vals_size];decide)) (by rw[vals_size];decide));clear hI2 hGs2 hf3 hf4 hb)
  | (go_at_call 110;(refine (HN.out _ al gr al2 gr2 (is_put ((HI.out.below B4.out).below (below_al' _ _)) (fun q hq h0=>by have:=is_own_lt HI.out h0 q hq;omega)) (gs_put ((HGS.out.below B4.out).below (below_al' _ _)) (fun q hq h0=>by have:=gs_own_lt' HGS.out h0 q hq;omega)) (is_put (HI2.out.below (below_al' _ _)) (fun q hq _=>by have:=HF3.out q hq;omega)) (gs_put (HG2.out.below (below_al' _ _)) (fun q hq _=>by have:=HF4.out q hq;omega))).mono ?_);rintro _ w5 ⟨rfl,hb⟩;have B5:=Lib.hid hb;clear hb))
 go_ret2
 have hb5:Below w2.heap.size (w4.alloc (.cells (y.1.vals al2 gr2) 27)) w5:=(below_setRow (Below.refl _ _) (Nat.le_succ _) _).trans (B5.out.mono (by have:=B4.out.size;simp;omega))
 exact⟨rfl,bt B2.out ((B4.out.alloc B4.out.size _).trans hb5)⟩
end Go.Proofs.YtdfdjfnfmibpjaaGreatDoor
end
section
/- Contracts: putEntry of package rebuild, put of the reference of chapter 37. Printed by wip/mknp3.py. -/
namespace Go.Proofs.YtdfdjfnfmibpjaaGreatDoor
open Go.RowKit
set_option maxHeartbeats 16000000
set_option maxRecDepth 8000
set_option linter.unusedSimpArgs false
abbrev Ch:=Int × Int × ByteArray × ByteArray × ByteArray
def putF (c:Ch):Option Fu :=
 if c.1=0∧1≤c.2.1∧c.2.1≤15 then (match decX (Ds.bl c.2.2.2.1) with
  | some y=>if keyX y=Ds.bl c.2.2.1 then some y else none
  | none=>none) else none
def PutR (w w':World) (o:Option Fu) (r:Ending):Prop:=∃ (x:Fu) (al gr:Value) (b:Bool),r=.returned (.tuple #[.agg (x.1.vals al gr),.bool b])∧IS w' al x.2.1∧GS w' gr x.2.2∧Below w.heap.size w w'∧(o=some x∧b=true∨o=none∧b=false)∧(∀ q,al.ownBlock=some q→w.heap.size≤q)∧(∀ q,gr.ownBlock=some q→w.heap.size≤q)
theorem PutR.put {w W:World} {o:Option Fu} {x:Fu} {al gr:Value} {b:Bool} (hH:Held W (w.heap.size+1) 33) (hb:Below w.heap.size w W) (hI:IS W al x.2.1) (hg:GS W gr x.2.2) (h1:∀ q,al.ownBlock=some q→w.heap.size+1<q) (h2:∀ q,gr.ownBlock=some q→w.heap.size+1<q) (ho:o=some x∧b=true∨o=none∧b=false) :
  PutR w (W.setRow (w.heap.size+1) (x.1.vals al gr)) o (.returned (.tuple #[.agg (row (W.setRow (w.heap.size+1) (x.1.vals al gr)) (w.heap.size+1)),.bool b])):=by
 have hk:∀ j,w.heap.size+1+1≤j→j<W.heap.size→(W.setRow (w.heap.size+1) (x.1.vals al gr)).heap[j]?=W.heap[j]?:=fun j h1 _=>setRow_block _ _ _ _ (by omega)
 exact⟨x,al,gr,b,congrArg (fun z=>Ending.returned (.tuple #[.agg z,.bool b])) (row_setRow hH _),hI.keep (w.heap.size+1+1) (fun y hy=>h1 y hy) (by simp) hk,hg.keep (w.heap.size+1+1) (fun y hy=>h2 y hy) (by simp) hk,below_setRow hb (by omega) _,ho,fun q hq=>by have:=h1 q hq;omega,fun q hq=>by have:=h2 q hq;omega⟩
theorem PutR.put0 {w W:World} (hH:Held W (w.heap.size+1) 33) (hb:Below w.heap.size w W) :
  PutR w (W.setRow (w.heap.size+1) (zlit 0 ⟨#[]⟩)) none (.returned (.tuple #[.agg (row (W.setRow (w.heap.size+1) (zlit 0 ⟨#[]⟩)) (w.heap.size+1)),.bool false])):=by
 rw[zlit_eq]
 exact PutR.put (x:=zF0) hH hb (IS.nil _) (GS.nil _) (fun _ h=>by cases h) (fun _ h=>by cases h) (Or.inr ⟨rfl,rfl⟩)
attribute [local go_sem ↓] ldEnt stEnt stEntRow bldEnt
attribute [local go_sem] Held_drew isHead_mk headOf_mk offOf_mk isPtr_mk cellsOfV_mk isAggV_mk row_new row_new2 row_new2' row_drew row_drewN vals_size allOne_nil allOne_cons one_int one_bool one_string one_pointer one_slice one_func vals_0 vals_1
theorem pe_put (k id:Int) (key rec vol:ByteArray) (w:World) (hm:MaxL w) (hT:Tab w) :
  Calls Tryz.prog 111 #[.agg #[.int .i64 k,.int .i64 id,.string key,.string rec,.string vol]] w fun r w'=>PutR w w' (putF (k,id,key,rec,vol)) r:=by
 have HH:=Lib.hid (hz_b w 27 (.cells #[.int .i64 k,.int .i64 id,.string key,.string rec,.string vol] 71))
 generalize hP:putF (k,id,key,rec,vol)=P
 unfold putF at hP
 dsimp only at hP
 have c0:=row_new2 w #[.int .i64 k,.int .i64 id,.string key,.string rec,.string vol] 71 (0,0) (.cells (zlit 0 ⟨#[]⟩) 27)
 unfold zlit at c0
 have HC:=Lib.hid c0
 clear c0
 by_cases hk:k=0
 rotate_left
 · rw[if_neg (fun h=>hk h.1)] at hP
   subst hP
   have t1:(k != 0)=true:=by rw[bne_iff_ne];exact hk
   have H1:=HH.out
   clear hk
   go_enter Tryz.func111,Tryz.ntmps111
   go_wp2_with fail
   refine bodyPost_ret (res_row_tmp (n:=32) rfl Tryz.underlying27 rfl (by kernel_rfl) _ _ (w.heap.size+1) rfl (size_put H1 rfl)) rfl ?_
   exact PutR.put0 H1 (below2' _ _ _)
 have t1:(k != 0)=false:=by rw[hk];rfl
 by_cases h1:id<1
 · rw[if_neg (fun h=>by omega)] at hP
   subst hP
   have t2:decide (id<1)=true:=decide_eq_true h1
   have H1:=HH.out
   clear hk h1
   go_enter Tryz.func111,Tryz.ntmps111
   go_wp2_with fail
   refine bodyPost_ret (res_row_tmp (n:=32) rfl Tryz.underlying27 rfl (by kernel_rfl) _ _ (w.heap.size+1) rfl (size_put H1 rfl)) rfl ?_
   exact PutR.put0 H1 (below2' _ _ _)
 have t2:decide (id<1)=false:=decide_eq_false h1
 by_cases h2:15<id
 · rw[if_neg (fun h=>by omega)] at hP
   subst hP
   have t3:decide (15<id)=true:=decide_eq_true h2
   have H1:=HH.out
   clear hk h1 h2
   go_enter Tryz.func111,Tryz.ntmps111
   go_wp2_with fail
   refine bodyPost_ret (res_row_tmp (n:=32) rfl Tryz.underlying27 rfl (by kernel_rfl) _ _ (w.heap.size+1) rfl (size_put H1 rfl)) rfl ?_
   exact PutR.put0 H1 (below2' _ _ _)
 have t3:decide (15<id)=false:=decide_eq_false h2
 rw[if_pos ⟨hk,by omega,by omega⟩] at hP
 clear hk h1 h2
 have HD:=Lib.hid (fun W (b:Below w.heap.size w W)=>en_decodeF rec W (hm.below b) (hT.below b))
 clear hm hT
 go_enter Tryz.func111,Tryz.ntmps111
 go_upto_region 4 with (go_at_call 46;(refine (HD.out _ (below2' _ _ _)).mono ?_);rintro _ w3 ⟨x,al,gr,code,rfl,hI,hGs,hb3,hc,hf1,hf2⟩;have hone:=vals_one x.1 al gr (is_one hI) (gs_one hGs);have B3:=Lib.hid (bt (below2' _ _ _) hb3);have H3:=held_a w3 (.cells (x.1.vals al gr) 27) _ _ (HH.out.below hb3);have HC3:=Lib.hid (row_below hb3 HC.out (by show 0<5;omega));have z3:w.heap.size+1+1≤w3.heap.size:=(by have:=hb3.size;simpa using this);have HI:=Lib.hid hI;have HGS:=Lib.hid hGs;have HF1:=Lib.hid hf1;have HF2:=Lib.hid hf2;clear hI hGs hb3 hf1 hf2)
 have hKS:∀ {W':World},Below (w3.heap.size+1) (w3.alloc (.cells (x.1.vals al gr) 27)) W'→row W' w3.heap.size=x.1.vals al gr∧W'.cell? ⟨w3.heap.size,0,none⟩=some (.int .i64 x.1.kind)∧W'.cell? ⟨w3.heap.size,1,none⟩=some (.string x.1.name)∧W'.cell? ⟨w.heap.size,0,none⟩=some (.int .i64 k)∧W'.cell? ⟨w.heap.size,1,none⟩=some (.int .i64 id)∧W'.cell? ⟨w.heap.size,2,none⟩=some (.string key)∧Held W' (w.heap.size+1) 33:=fun {W'} h=>by
  have h':Below (w3.alloc (.cells (x.1.vals al gr) 27)).heap.size (w3.alloc (.cells (x.1.vals al gr) 27)) W':=by rw[World.size_alloc];exact h
  have q:=row_below h' (row_new w3 (x.1.vals al gr) 27 (0,0)) (by rw[vals_size];decide)
  have q2:∀ i v,#[.int .i64 k,.int .i64 id,.string key,.string rec,.string vol][i]?=some v→W'.cell? ⟨w.heap.size,i,none⟩=some v:=fun i v hv=>(h'.cell (p:=⟨w.heap.size,i,none⟩) (by show w.heap.size<_;simp;omega)).trans (((below_al' w3 _).cell (p:=⟨w.heap.size,i,none⟩) (by show w.heap.size<w3.heap.size;omega)).trans (cell_row HC3.out i v hv))
  exact⟨q,cell_row q 0 _ (vals_0 _ _ _),cell_row q 1 _ (vals_1 _ _ _),q2 0 _ rfl,q2 1 _ rfl,q2 2 _ rfl,H3.below h'⟩
 refine wp_region_held_drew (S:=fun w'=>row w' w3.heap.size=x.1.vals al gr∧w'.cell? ⟨w3.heap.size,0,none⟩=some (.int .i64 x.1.kind)∧w'.cell? ⟨w3.heap.size,1,none⟩=some (.string x.1.name)∧w'.cell? ⟨w.heap.size,0,none⟩=some (.int .i64 k)∧w'.cell? ⟨w.heap.size,1,none⟩=some (.int .i64 id)∧w'.cell? ⟨w.heap.size,2,none⟩=some (.string key)∧Held w' (w.heap.size+1) 33) (by kernel_rfl) ?_ (fun hHeld=>?_)
 · exact hKS (Below.drew (Below.refl _ _))
 obtain⟨W2,hW2⟩:∃ W2,(w3.alloc (.cells (x.1.vals al gr) 27)).drew=W2:=⟨_,rfl⟩
 rw[hW2] at hHeld ⊢
 have b2:Below (w3.heap.size+1) (w3.alloc (.cells (x.1.vals al gr) 27)) W2:=by rw[← hW2];exact Below.drew (Below.refl _ _)
 have z2:W2.heap.size=w3.heap.size+1:=by rw[← hW2];simp
 clear hW2
 have hky:=keyZ_eq x key
 rcases hc with ⟨hd,rfl⟩ | ⟨hd,rfl,rfl⟩
 · rw[hd] at hP
   dsimp only at hP
   have HK:=Lib.hid (fun W=>pr_key x.1.kind x.1.name W)
   clear hd
   by_cases hke:keyX x=Ds.bl key
   · rw[if_pos hke] at hP
     rw[decide_eq_true hke] at hky
     clear hke
     generalize keyZ x.1.kind x.1.name=kz at hky HK
     refine rg_y (i:=0) (some 26) (v:=.agg (x.1.vals al gr)) rfl rfl (by kernel_rfl) (by kernel_rfl) (by kernel_rfl) (fun _ _ _ h=>h) (by kernel_rfl) (fun w' hS=>?_) (by assumption) ?_
     · refine (ldEnt _ w' _ _ _ _ _ _ (by rfl) (by show (row w' w3.heap.size).size=33;rw[hS.1];exact vals_size _ _ _)).trans ?_
       show Result.ok (Next.value (.agg (row w' w3.heap.size))) w'=_
       rw[hS.1]
     try simp only[Act.put,List.setIfInBounds_toArray,List.set_cons_zero,List.set_cons_succ]
     (refine rg_y (i:=1) (some 27) (v:=?_) rfl rfl (by kernel_rfl) (by kernel_rfl) (by kernel_rfl) (fun _ _ _ h=>h) (by kernel_rfl) ?_ (by assumption) ?_;rotate_left 1;focus (intro w hSw;(try dsimp only at hSw);(first | (go_simp;done) | (go_simp;with_reducible rfl)));(try simp only[Act.put,List.setIfInBounds_toArray,List.set_cons_zero,List.set_cons_succ]))
     (refine rg_y (i:=2) (some 28) (v:=?_) rfl rfl (by kernel_rfl) (by kernel_rfl) (by kernel_rfl) (fun _ _ _ h=>h) (by kernel_rfl) ?_ (by assumption) ?_;rotate_left 1;focus (intro w hSw;(try dsimp only at hSw);(first | (go_simp;done) | (go_simp;with_reducible rfl)));(try simp only[Act.put,List.setIfInBounds_toArray,List.set_cons_zero,List.set_cons_succ]))
     (refine rg_y (i:=3) (some 29) (v:=?_) rfl rfl (by kernel_rfl) (by kernel_rfl) (by kernel_rfl) (fun _ _ _ h=>h) (by kernel_rfl) ?_ (by assumption) ?_;rotate_left 1;focus (intro w hSw;(try dsimp only at hSw);(first | (go_simp;done) | (go_simp;with_reducible rfl)));(try simp only[Act.put,List.setIfInBounds_toArray,List.set_cons_zero,List.set_cons_succ]))
     (refine rg_y (i:=4) (some 30) (v:=?_) rfl rfl (by kernel_rfl) (by kernel_rfl) (by kernel_rfl) (fun _ _ _ h=>h) (by kernel_rfl) ?_ (by assumption) ?_;rotate_left 1;focus (intro w hSw;(try dsimp only at hSw);(first | (go_simp;done) | (go_simp;with_reducible rfl)));(try simp only[Act.put,List.setIfInBounds_toArray,List.set_cons_zero,List.set_cons_succ]))
     (refine rg_y (i:=5) (some 31) (v:=?_) rfl rfl (by kernel_rfl) (by kernel_rfl) (by kernel_rfl) (fun _ _ _ h=>h) (by kernel_rfl) ?_ (by assumption) ?_;rotate_left 1;focus (intro w hSw;(try dsimp only at hSw);(first | (go_simp;done) | (go_simp;with_reducible rfl)));(try simp only[Act.put,List.setIfInBounds_toArray,List.set_cons_zero,List.set_cons_succ]))
     (refine rg_y (i:=6) (some 32) (v:=?_) rfl rfl (by kernel_rfl) (by kernel_rfl) (by kernel_rfl) (fun _ _ _ h=>h) (by kernel_rfl) ?_ (by assumption) ?_;rotate_left 1;focus (intro w hSw;(try dsimp only at hSw);(first | (go_simp;done) | (go_simp;with_reducible rfl)));(try simp only[Act.put,List.setIfInBounds_toArray,List.set_cons_zero,List.set_cons_succ]))
     (refine rg_y (i:=7) (some 33) (v:=?_) rfl rfl (by kernel_rfl) (by kernel_rfl) (by kernel_rfl) (fun _ _ _ h=>h) (by kernel_rfl) ?_ (by assumption) ?_;rotate_left 1;focus (intro w hSw;(try dsimp only at hSw);(first | (go_simp;done) | (go_simp;with_reducible rfl)));(try simp only[Act.put,List.setIfInBounds_toArray,List.set_cons_zero,List.set_cons_succ]))
     (refine rg_y (i:=9) (some 35) (v:=?_) rfl rfl (by kernel_rfl) (by kernel_rfl) (by kernel_rfl) (fun _ _ _ h=>h) (by kernel_rfl) ?_ (by assumption) ?_;rotate_left 1;focus (intro w hSw;(try dsimp only at hSw);(first | (go_simp;done) | (go_simp;with_reducible rfl)));(try simp only[Act.put,List.setIfInBounds_toArray,List.set_cons_zero,List.set_cons_succ]))
     (refine rg_y (i:=10) (some 36) (v:=?_) rfl rfl (by kernel_rfl) (by kernel_rfl) (by kernel_rfl) (fun _ _ _ h=>h) (by kernel_rfl) ?_ (by assumption) ?_;rotate_left 1;focus (intro w hSw;(try dsimp only at hSw);(first | (go_simp;done) | (go_simp;with_reducible rfl)));(try simp only[Act.put,List.setIfInBounds_toArray,List.set_cons_zero,List.set_cons_succ]))
     (refine wpAnyH_ready (rs:=[8]) (by kernel_rfl) (by simp) ?_;refine AllReadyH.cons (o:=_) rfl (fun K hK=>?_) AllReadyH.nil)
     go_simp
     go_at_call 14
     refine (HK.out _).mono ?_
     rintro _ w5 ⟨rfl,hb5⟩
     have b5:Below (w3.heap.size+1) (w3.alloc (.cells (x.1.vals al gr) 27)) w5:=b2.trans (hb5.mono (by omega))
     refine hK.out _ _ (hKS b5) (fun hHeld=>?_)
     (clear hK K;(try simp only[Act.put,List.setIfInBounds_toArray,List.set_cons_zero,List.set_cons_succ]))
     (refine rg_y (i:=11) (some 37) (v:=?_) rfl rfl (by kernel_rfl) (by kernel_rfl) (by kernel_rfl) (fun _ _ _ h=>h) (by kernel_rfl) ?_ (by assumption) ?_;rotate_left 1;focus (intro w hSw;(try dsimp only at hSw);(first | (go_simp;done) | (go_simp;with_reducible rfl)));(try simp only[Act.put,List.setIfInBounds_toArray,List.set_cons_zero,List.set_cons_succ]))
     (refine rg_y (i:=12) (some 38) (v:=?_) rfl rfl (by kernel_rfl) (by kernel_rfl) (by kernel_rfl) (fun _ _ _ h=>h) (by kernel_rfl) ?_ (by assumption) ?_;rotate_left 1;focus (intro w hSw;(try dsimp only at hSw);(first | (go_simp;done) | (go_simp;with_reducible rfl)));(try simp only[Act.put,List.setIfInBounds_toArray,List.set_cons_zero,List.set_cons_succ]))
     have hSn:row (w5.setRow (w.heap.size+1) (x.1.vals al gr)) w3.heap.size=x.1.vals al gr∧(w5.setRow (w.heap.size+1) (x.1.vals al gr)).cell? ⟨w3.heap.size,0,none⟩=some (.int .i64 x.1.kind)∧(w5.setRow (w.heap.size+1) (x.1.vals al gr)).cell? ⟨w3.heap.size,1,none⟩=some (.string x.1.name)∧(w5.setRow (w.heap.size+1) (x.1.vals al gr)).cell? ⟨w.heap.size,0,none⟩=some (.int .i64 k)∧(w5.setRow (w.heap.size+1) (x.1.vals al gr)).cell? ⟨w.heap.size,1,none⟩=some (.int .i64 id)∧(w5.setRow (w.heap.size+1) (x.1.vals al gr)).cell? ⟨w.heap.size,2,none⟩=some (.string key)∧Held (w5.setRow (w.heap.size+1) (x.1.vals al gr)) (w.heap.size+1) 33:=by
      obtain⟨a1,a2,a3,a4,a5,a6,a7⟩:=hHeld
      have ne1:w3.heap.size≠w.heap.size+1:=by omega
      have ne2:w.heap.size≠w.heap.size+1:=by omega
      exact⟨(row_set_ne _ _ _ _ ne1).trans a1,(World.cell?_of_block (a:=⟨w3.heap.size,0,none⟩) (setRow_block _ _ _ _ ne1)).trans a2,(World.cell?_of_block (a:=⟨w3.heap.size,1,none⟩) (setRow_block _ _ _ _ ne1)).trans a3,(World.cell?_of_block (a:=⟨w.heap.size,0,none⟩) (setRow_block _ _ _ _ ne2)).trans a4,(World.cell?_of_block (a:=⟨w.heap.size,1,none⟩) (setRow_block _ _ _ _ ne2)).trans a5,(World.cell?_of_block (a:=⟨w.heap.size,2,none⟩) (setRow_block _ _ _ _ ne2)).trans a6,a7.set _ (fun _=>vals_size _ _ _)⟩
     have hHW:=hHeld.2.2.2.2.2.2
     refine rg_t (i:=13) none (w5.setRow (w.heap.size+1) (x.1.vals al gr)) rfl rfl (by kernel_rfl) (by kernel_rfl) (stEntRow _ _ _ _ _ _ _ _ _ (by rfl) (by exact hHW) (by rfl) (vals_size _ _ _) hone) hSn ?_
     try simp only[Act.put,List.setIfInBounds_toArray,List.set_cons_zero,List.set_cons_succ]
     (refine rg_y (i:=14) (some 3) (v:=?_) rfl rfl (by kernel_rfl) (by kernel_rfl) (by kernel_rfl) (fun _ _ _ h=>h) (by kernel_rfl) ?_ (by assumption) ?_;rotate_left 1;focus (intro w hSw;(try dsimp only at hSw);(first | (go_simp;done) | (go_simp;with_reducible rfl)));(try simp only[Act.put,List.setIfInBounds_toArray,List.set_cons_zero,List.set_cons_succ]))
     refine wpAnyH_done (by kernel_rfl) ?_ _
     clear hHeld hSn hKS
     go_wp2_with fail
     refine bodyPost_ret (res_row_tmp (n:=32) rfl Tryz.underlying27 rfl (by kernel_rfl) _ _ (w.heap.size+1) rfl (size_put hHW (vals_size _ _ _))) rfl ?_
     have b4:Below w3.heap.size w3 w5:=(below_al' _ _).trans (b5.mono (Nat.le_succ _))
     exact PutR.put (x:=x) hHW (bt B3.out b4) (HI.out.below b4) (HGS.out.below b4) (fun q hq=>by have:=HF1.out q hq;simp at this;omega) (fun q hq=>by have:=HF2.out q hq;simp at this;omega) (Or.inl ⟨hP.symm,rfl⟩)
   · rw[if_neg hke] at hP
     rw[decide_eq_false hke] at hky
     clear hke
     generalize keyZ x.1.kind x.1.name=kz at hky HK
     refine rg_y (i:=0) (some 26) (v:=.agg (x.1.vals al gr)) rfl rfl (by kernel_rfl) (by kernel_rfl) (by kernel_rfl) (fun _ _ _ h=>h) (by kernel_rfl) (fun w' hS=>?_) (by assumption) ?_
     · refine (ldEnt _ w' _ _ _ _ _ _ (by rfl) (by show (row w' w3.heap.size).size=33;rw[hS.1];exact vals_size _ _ _)).trans ?_
       show Result.ok (Next.value (.agg (row w' w3.heap.size))) w'=_
       rw[hS.1]
     try simp only[Act.put,List.setIfInBounds_toArray,List.set_cons_zero,List.set_cons_succ]
     (refine rg_y (i:=1) (some 27) (v:=?_) rfl rfl (by kernel_rfl) (by kernel_rfl) (by kernel_rfl) (fun _ _ _ h=>h) (by kernel_rfl) ?_ (by assumption) ?_;rotate_left 1;focus (intro w hSw;(try dsimp only at hSw);(first | (go_simp;done) | (go_simp;with_reducible rfl)));(try simp only[Act.put,List.setIfInBounds_toArray,List.set_cons_zero,List.set_cons_succ]))
     (refine rg_y (i:=2) (some 28) (v:=?_) rfl rfl (by kernel_rfl) (by kernel_rfl) (by kernel_rfl) (fun _ _ _ h=>h) (by kernel_rfl) ?_ (by assumption) ?_;rotate_left 1;focus (intro w hSw;(try dsimp only at hSw);(first | (go_simp;done) | (go_simp;with_reducible rfl)));(try simp only[Act.put,List.setIfInBounds_toArray,List.set_cons_zero,List.set_cons_succ]))
     (refine rg_y (i:=3) (some 29) (v:=?_) rfl rfl (by kernel_rfl) (by kernel_rfl) (by kernel_rfl) (fun _ _ _ h=>h) (by kernel_rfl) ?_ (by assumption) ?_;rotate_left 1;focus (intro w hSw;(try dsimp only at hSw);(first | (go_simp;done) | (go_simp;with_reducible rfl)));(try simp only[Act.put,List.setIfInBounds_toArray,List.set_cons_zero,List.set_cons_succ]))
     (refine rg_y (i:=4) (some 30) (v:=?_) rfl rfl (by kernel_rfl) (by kernel_rfl) (by kernel_rfl) (fun _ _ _ h=>h) (by kernel_rfl) ?_ (by assumption) ?_;rotate_left 1;focus (intro w hSw;(try dsimp only at hSw);(first | (go_simp;done) | (go_simp;with_reducible rfl)));(try simp only[Act.put,List.setIfInBounds_toArray,List.set_cons_zero,List.set_cons_succ]))
     (refine rg_y (i:=5) (some 31) (v:=?_) rfl rfl (by kernel_rfl) (by kernel_rfl) (by kernel_rfl) (fun _ _ _ h=>h) (by kernel_rfl) ?_ (by assumption) ?_;rotate_left 1;focus (intro w hSw;(try dsimp only at hSw);(first | (go_simp;done) | (go_simp;with_reducible rfl)));(try simp only[Act.put,List.setIfInBounds_toArray,List.set_cons_zero,List.set_cons_succ]))
     (refine rg_y (i:=6) (some 32) (v:=?_) rfl rfl (by kernel_rfl) (by kernel_rfl) (by kernel_rfl) (fun _ _ _ h=>h) (by kernel_rfl) ?_ (by assumption) ?_;rotate_left 1;focus (intro w hSw;(try dsimp only at hSw);(first | (go_simp;done) | (go_simp;with_reducible rfl)));(try simp only[Act.put,List.setIfInBounds_toArray,List.set_cons_zero,List.set_cons_succ]))
     (refine rg_y (i:=7) (some 33) (v:=?_) rfl rfl (by kernel_rfl) (by kernel_rfl) (by kernel_rfl) (fun _ _ _ h=>h) (by kernel_rfl) ?_ (by assumption) ?_;rotate_left 1;focus (intro w hSw;(try dsimp only at hSw);(first | (go_simp;done) | (go_simp;with_reducible rfl)));(try simp only[Act.put,List.setIfInBounds_toArray,List.set_cons_zero,List.set_cons_succ]))
     (refine rg_y (i:=9) (some 35) (v:=?_) rfl rfl (by kernel_rfl) (by kernel_rfl) (by kernel_rfl) (fun _ _ _ h=>h) (by kernel_rfl) ?_ (by assumption) ?_;rotate_left 1;focus (intro w hSw;(try dsimp only at hSw);(first | (go_simp;done) | (go_simp;with_reducible rfl)));(try simp only[Act.put,List.setIfInBounds_toArray,List.set_cons_zero,List.set_cons_succ]))
     (refine rg_y (i:=10) (some 36) (v:=?_) rfl rfl (by kernel_rfl) (by kernel_rfl) (by kernel_rfl) (fun _ _ _ h=>h) (by kernel_rfl) ?_ (by assumption) ?_;rotate_left 1;focus (intro w hSw;(try dsimp only at hSw);(first | (go_simp;done) | (go_simp;with_reducible rfl)));(try simp only[Act.put,List.setIfInBounds_toArray,List.set_cons_zero,List.set_cons_succ]))
     (refine wpAnyH_ready (rs:=[8]) (by kernel_rfl) (by simp) ?_;refine AllReadyH.cons (o:=_) rfl (fun K hK=>?_) AllReadyH.nil)
     go_simp
     go_at_call 14
     refine (HK.out _).mono ?_
     rintro _ w5 ⟨rfl,hb5⟩
     have b5:Below (w3.heap.size+1) (w3.alloc (.cells (x.1.vals al gr) 27)) w5:=b2.trans (hb5.mono (by omega))
     refine hK.out _ _ (hKS b5) (fun hHeld=>?_)
     (clear hK K;(try simp only[Act.put,List.setIfInBounds_toArray,List.set_cons_zero,List.set_cons_succ]))
     (refine rg_y (i:=11) (some 37) (v:=?_) rfl rfl (by kernel_rfl) (by kernel_rfl) (by kernel_rfl) (fun _ _ _ h=>h) (by kernel_rfl) ?_ (by assumption) ?_;rotate_left 1;focus (intro w hSw;(try dsimp only at hSw);(first | (go_simp;done) | (go_simp;with_reducible rfl)));(try simp only[Act.put,List.setIfInBounds_toArray,List.set_cons_zero,List.set_cons_succ]))
     (refine rg_y (i:=12) (some 38) (v:=?_) rfl rfl (by kernel_rfl) (by kernel_rfl) (by kernel_rfl) (fun _ _ _ h=>h) (by kernel_rfl) ?_ (by assumption) ?_;rotate_left 1;focus (intro w hSw;(try dsimp only at hSw);(first | (go_simp;done) | (go_simp;with_reducible rfl)));(try simp only[Act.put,List.setIfInBounds_toArray,List.set_cons_zero,List.set_cons_succ]))
     have hSn:row (w5.setRow (w.heap.size+1) (x.1.vals al gr)) w3.heap.size=x.1.vals al gr∧(w5.setRow (w.heap.size+1) (x.1.vals al gr)).cell? ⟨w3.heap.size,0,none⟩=some (.int .i64 x.1.kind)∧(w5.setRow (w.heap.size+1) (x.1.vals al gr)).cell? ⟨w3.heap.size,1,none⟩=some (.string x.1.name)∧(w5.setRow (w.heap.size+1) (x.1.vals al gr)).cell? ⟨w.heap.size,0,none⟩=some (.int .i64 k)∧(w5.setRow (w.heap.size+1) (x.1.vals al gr)).cell? ⟨w.heap.size,1,none⟩=some (.int .i64 id)∧(w5.setRow (w.heap.size+1) (x.1.vals al gr)).cell? ⟨w.heap.size,2,none⟩=some (.string key)∧Held (w5.setRow (w.heap.size+1) (x.1.vals al gr)) (w.heap.size+1) 33:=by
      obtain⟨a1,a2,a3,a4,a5,a6,a7⟩:=hHeld
      have ne1:w3.heap.size≠w.heap.size+1:=by omega
      have ne2:w.heap.size≠w.heap.size+1:=by omega
      exact⟨(row_set_ne _ _ _ _ ne1).trans a1,(World.cell?_of_block (a:=⟨w3.heap.size,0,none⟩) (setRow_block _ _ _ _ ne1)).trans a2,(World.cell?_of_block (a:=⟨w3.heap.size,1,none⟩) (setRow_block _ _ _ _ ne1)).trans a3,(World.cell?_of_block (a:=⟨w.heap.size,0,none⟩) (setRow_block _ _ _ _ ne2)).trans a4,(World.cell?_of_block (a:=⟨w.heap.size,1,none⟩) (setRow_block _ _ _ _ ne2)).trans a5,(World.cell?_of_block (a:=⟨w.heap.size,2,none⟩) (setRow_block _ _ _ _ ne2)).trans a6,a7.set _ (fun _=>vals_size _ _ _)⟩
     have hHW:=hHeld.2.2.2.2.2.2
     refine rg_t (i:=13) none (w5.setRow (w.heap.size+1) (x.1.vals al gr)) rfl rfl (by kernel_rfl) (by kernel_rfl) (stEntRow _ _ _ _ _ _ _ _ _ (by rfl) (by exact hHW) (by rfl) (vals_size _ _ _) hone) hSn ?_
     try simp only[Act.put,List.setIfInBounds_toArray,List.set_cons_zero,List.set_cons_succ]
     (refine rg_y (i:=14) (some 3) (v:=?_) rfl rfl (by kernel_rfl) (by kernel_rfl) (by kernel_rfl) (fun _ _ _ h=>h) (by kernel_rfl) ?_ (by assumption) ?_;rotate_left 1;focus (intro w hSw;(try dsimp only at hSw);(first | (go_simp;done) | (go_simp;with_reducible rfl)));(try simp only[Act.put,List.setIfInBounds_toArray,List.set_cons_zero,List.set_cons_succ]))
     refine wpAnyH_done (by kernel_rfl) ?_ _
     clear hHeld hSn hKS
     go_wp2_with fail
     refine bodyPost_ret (res_row_tmp (n:=32) rfl Tryz.underlying27 rfl (by kernel_rfl) _ _ (w.heap.size+1) rfl (size_put hHW (vals_size _ _ _))) rfl ?_
     have b4:Below w3.heap.size w3 w5:=(below_al' _ _).trans (b5.mono (Nat.le_succ _))
     exact PutR.put (x:=x) hHW (bt B3.out b4) (HI.out.below b4) (HGS.out.below b4) (fun q hq=>by have:=HF1.out q hq;simp at this;omega) (fun q hq=>by have:=HF2.out q hq;simp at this;omega) (Or.inr ⟨hP.symm,rfl⟩)
 · rw[hd] at hP
   dsimp only at hP
   clear hd hky
   refine rg_y (i:=0) (some 26) (v:=.agg (((En.zero,[],[]):Fu).1.vals al gr)) rfl rfl (by kernel_rfl) (by kernel_rfl) (by kernel_rfl) (fun _ _ _ h=>h) (by kernel_rfl) (fun w' hS=>?_) (by assumption) ?_
   · refine (ldEnt _ w' _ _ _ _ _ _ (by rfl) (by show (row w' w3.heap.size).size=33;rw[hS.1];exact vals_size _ _ _)).trans ?_
     show Result.ok (Next.value (.agg (row w' w3.heap.size))) w'=_
     rw[hS.1]
   try simp only[Act.put,List.setIfInBounds_toArray,List.set_cons_zero,List.set_cons_succ]
   (refine rg_y (i:=1) (some 27) (v:=?_) rfl rfl (by kernel_rfl) (by kernel_rfl) (by kernel_rfl) (fun _ _ _ h=>h) (by kernel_rfl) ?_ (by assumption) ?_;rotate_left 1;focus (intro w hSw;(try dsimp only at hSw);(first | (go_simp;done) | (go_simp;with_reducible rfl)));(try simp only[Act.put,List.setIfInBounds_toArray,List.set_cons_zero,List.set_cons_succ]))
   (refine rg_y (i:=2) (some 28) (v:=?_) rfl rfl (by kernel_rfl) (by kernel_rfl) (by kernel_rfl) (fun _ _ _ h=>h) (by kernel_rfl) ?_ (by assumption) ?_;rotate_left 1;focus (intro w hSw;(try dsimp only at hSw);(first | (go_simp;done) | (go_simp;with_reducible rfl)));(try simp only[Act.put,List.setIfInBounds_toArray,List.set_cons_zero,List.set_cons_succ]))
   (refine rg_y (i:=3) (some 29) (v:=?_) rfl rfl (by kernel_rfl) (by kernel_rfl) (by kernel_rfl) (fun _ _ _ h=>h) (by kernel_rfl) ?_ (by assumption) ?_;rotate_left 1;focus (intro w hSw;(try dsimp only at hSw);(first | (go_simp;done) | (go_simp;with_reducible rfl)));(try simp only[Act.put,List.setIfInBounds_toArray,List.set_cons_zero,List.set_cons_succ]))
   (refine rg_s (i:=4) (some 30) rfl rfl (by kernel_rfl) (by kernel_rfl) (by kernel_rfl) (fun _ _ _ h=>h) (by kernel_rfl) (by assumption) ?_;(try simp only[Act.put,List.setIfInBounds_toArray,List.set_cons_zero,List.set_cons_succ]))
   (refine rg_s (i:=5) (some 31) rfl rfl (by kernel_rfl) (by kernel_rfl) (by kernel_rfl) (fun _ _ _ h=>h) (by kernel_rfl) (by assumption) ?_;(try simp only[Act.put,List.setIfInBounds_toArray,List.set_cons_zero,List.set_cons_succ]))
   (refine rg_s (i:=6) (some 32) rfl rfl (by kernel_rfl) (by kernel_rfl) (by kernel_rfl) (fun _ _ _ h=>h) (by kernel_rfl) (by assumption) ?_;(try simp only[Act.put,List.setIfInBounds_toArray,List.set_cons_zero,List.set_cons_succ]))
   (refine rg_s (i:=7) (some 33) rfl rfl (by kernel_rfl) (by kernel_rfl) (by kernel_rfl) (fun _ _ _ h=>h) (by kernel_rfl) (by assumption) ?_;(try simp only[Act.put,List.setIfInBounds_toArray,List.set_cons_zero,List.set_cons_succ]))
   (refine rg_s (i:=8) (some 34) rfl rfl (by kernel_rfl) (by kernel_rfl) (by kernel_rfl) (fun _ _ _ h=>h) (by kernel_rfl) (by assumption) ?_;(try simp only[Act.put,List.setIfInBounds_toArray,List.set_cons_zero,List.set_cons_succ]))
   (refine rg_s (i:=9) (some 35) rfl rfl (by kernel_rfl) (by kernel_rfl) (by kernel_rfl) (fun _ _ _ h=>h) (by kernel_rfl) (by assumption) ?_;(try simp only[Act.put,List.setIfInBounds_toArray,List.set_cons_zero,List.set_cons_succ]))
   (refine rg_s (i:=10) (some 36) rfl rfl (by kernel_rfl) (by kernel_rfl) (by kernel_rfl) (fun _ _ _ h=>h) (by kernel_rfl) (by assumption) ?_;(try simp only[Act.put,List.setIfInBounds_toArray,List.set_cons_zero,List.set_cons_succ]))
   (refine rg_s (i:=11) (some 37) rfl rfl (by kernel_rfl) (by kernel_rfl) (by kernel_rfl) (fun _ _ _ h=>h) (by kernel_rfl) (by assumption) ?_;(try simp only[Act.put,List.setIfInBounds_toArray,List.set_cons_zero,List.set_cons_succ]))
   (refine rg_y (i:=12) (some 38) (v:=?_) rfl rfl (by kernel_rfl) (by kernel_rfl) (by kernel_rfl) (fun _ _ _ h=>h) (by kernel_rfl) ?_ (by assumption) ?_;rotate_left 1;focus (intro w hSw;(try dsimp only at hSw);(first | (go_simp;done) | (go_simp;with_reducible rfl)));(try simp only[Act.put,List.setIfInBounds_toArray,List.set_cons_zero,List.set_cons_succ]))
   have hSn:row (W2.setRow (w.heap.size+1) (((En.zero,[],[]):Fu).1.vals al gr)) w3.heap.size=((En.zero,[],[]):Fu).1.vals al gr∧(W2.setRow (w.heap.size+1) (((En.zero,[],[]):Fu).1.vals al gr)).cell? ⟨w3.heap.size,0,none⟩=some (.int .i64 ((En.zero,[],[]):Fu).1.kind)∧(W2.setRow (w.heap.size+1) (((En.zero,[],[]):Fu).1.vals al gr)).cell? ⟨w3.heap.size,1,none⟩=some (.string ((En.zero,[],[]):Fu).1.name)∧(W2.setRow (w.heap.size+1) (((En.zero,[],[]):Fu).1.vals al gr)).cell? ⟨w.heap.size,0,none⟩=some (.int .i64 k)∧(W2.setRow (w.heap.size+1) (((En.zero,[],[]):Fu).1.vals al gr)).cell? ⟨w.heap.size,1,none⟩=some (.int .i64 id)∧(W2.setRow (w.heap.size+1) (((En.zero,[],[]):Fu).1.vals al gr)).cell? ⟨w.heap.size,2,none⟩=some (.string key)∧Held (W2.setRow (w.heap.size+1) (((En.zero,[],[]):Fu).1.vals al gr)) (w.heap.size+1) 33:=by
    obtain⟨a1,a2,a3,a4,a5,a6,a7⟩:=hHeld
    have ne1:w3.heap.size≠w.heap.size+1:=by omega
    have ne2:w.heap.size≠w.heap.size+1:=by omega
    exact⟨(row_set_ne _ _ _ _ ne1).trans a1,(World.cell?_of_block (a:=⟨w3.heap.size,0,none⟩) (setRow_block _ _ _ _ ne1)).trans a2,(World.cell?_of_block (a:=⟨w3.heap.size,1,none⟩) (setRow_block _ _ _ _ ne1)).trans a3,(World.cell?_of_block (a:=⟨w.heap.size,0,none⟩) (setRow_block _ _ _ _ ne2)).trans a4,(World.cell?_of_block (a:=⟨w.heap.size,1,none⟩) (setRow_block _ _ _ _ ne2)).trans a5,(World.cell?_of_block (a:=⟨w.heap.size,2,none⟩) (setRow_block _ _ _ _ ne2)).trans a6,a7.set _ (fun _=>vals_size _ _ _)⟩
   have hHW:=hHeld.2.2.2.2.2.2
   refine rg_t (i:=13) none (W2.setRow (w.heap.size+1) (((En.zero,[],[]):Fu).1.vals al gr)) rfl rfl (by kernel_rfl) (by kernel_rfl) (stEntRow _ _ _ _ _ _ _ _ _ (by rfl) (by exact hHW) (by rfl) (vals_size _ _ _) hone) hSn ?_
   try simp only[Act.put,List.setIfInBounds_toArray,List.set_cons_zero,List.set_cons_succ]
   (refine rg_y (i:=14) (some 3) (v:=?_) rfl rfl (by kernel_rfl) (by kernel_rfl) (by kernel_rfl) (fun _ _ _ h=>h) (by kernel_rfl) ?_ (by assumption) ?_;rotate_left 1;focus (intro w hSw;(try dsimp only at hSw);(first | (go_simp;done) | (go_simp;with_reducible rfl)));(try simp only[Act.put,List.setIfInBounds_toArray,List.set_cons_zero,List.set_cons_succ]))
   refine wpAnyH_done (by kernel_rfl) ?_ _
   clear hHeld hSn hKS
   go_wp2_with fail
   refine bodyPost_ret (res_row_tmp (n:=32) rfl Tryz.underlying27 rfl (by kernel_rfl) _ _ (w.heap.size+1) rfl (size_put hHW (vals_size _ _ _))) rfl ?_
   have b4:Below w3.heap.size w3 W2:=(below_al' _ _).trans (b2.mono (Nat.le_succ _))
   exact PutR.put (x:=(En.zero,[],[])) hHW (bt B3.out b4) (HI.out.below b4) (HGS.out.below b4) (fun q hq=>by have:=HF1.out q hq;simp at this;omega) (fun q hq=>by have:=HF2.out q hq;simp at this;omega) (Or.inr ⟨hP.symm,rfl⟩)
end Go.Proofs.YtdfdjfnfmibpjaaGreatDoor
end
section
/- Contract of the reference of chapter 37: put. Printed by wip/mknp3.py. -/
namespace Go.Proofs.YtdfdjfnfmibpjaaGreatDoor
open Go.RowKit
set_option maxHeartbeats 16000000
set_option maxRecDepth 8000
set_option linter.unusedSimpArgs false
attribute [local go_sem ↓] ldEnt stEnt stEntRow bldEnt
attribute [local go_sem] Held_drew isHead_mk headOf_mk offOf_mk isPtr_mk cellsOfV_mk isAggV_mk row_new row_new2 row_new2' row_drew row_drewN vals_size allOne_nil allOne_cons one_int one_bool one_string one_pointer one_slice one_func vals_0 vals_1
theorem r37_put (k id:Int) (key rec vol:ByteArray) (w:World) :
  Calls Tryz.prog 113 #[.agg #[.int .i64 k,.int .i64 id,.string key,.string rec,.string vol]] w fun r w'=>PutR w w' (putF (k,id,key,rec,vol)) r:=by
 have HH:=Lib.hid (hz_b w 27 (.cells #[.int .i64 k,.int .i64 id,.string key,.string rec,.string vol] 71))
 generalize hP:putF (k,id,key,rec,vol)=P
 unfold putF at hP
 dsimp only at hP
 have c0:=row_new2 w #[.int .i64 k,.int .i64 id,.string key,.string rec,.string vol] 71 (0,0) (.cells (zlit 0 ⟨#[]⟩) 27)
 unfold zlit at c0
 have HC:=Lib.hid c0
 clear c0
 have HD:=Lib.hid (fun W=>rdec_two rec W)
 go_enter Tryz.func113,Tryz.ntmps113
 go_upto_region 2 with (go_at_call 190;(refine (HD.out _).mono ?_);rintro _ w3 ⟨x,al,gr,code,rfl,hI,hGs,hb3,hc,hf1,hf2⟩;have hone:=vals_one x.1 al gr (is_one hI) (gs_one hGs);have B3:=Lib.hid (bt (below2' _ _ _) hb3);have H3:=held_a w3 (.cells (x.1.vals al gr) 27) _ _ (HH.out.below hb3);have HC3:=Lib.hid (row_below hb3 HC.out (by show 0<5;omega));have z3:w.heap.size+1+1≤w3.heap.size:=(by have:=hb3.size;simpa using this);have HI:=Lib.hid hI;have HGS:=Lib.hid hGs;have HF1:=Lib.hid hf1;have HF2:=Lib.hid hf2;clear hI hGs hb3 hf1 hf2)
 have hKS:∀ {W':World},Below (w3.heap.size+1) (w3.alloc (.cells (x.1.vals al gr) 27)) W'→row W' w3.heap.size=x.1.vals al gr∧W'.cell? ⟨w3.heap.size,0,none⟩=some (.int .i64 x.1.kind)∧W'.cell? ⟨w3.heap.size,1,none⟩=some (.string x.1.name)∧W'.cell? ⟨w.heap.size,0,none⟩=some (.int .i64 k)∧W'.cell? ⟨w.heap.size,1,none⟩=some (.int .i64 id)∧W'.cell? ⟨w.heap.size,2,none⟩=some (.string key)∧Held W' (w.heap.size+1) 33:=fun {W'} h=>by
  have h':Below (w3.alloc (.cells (x.1.vals al gr) 27)).heap.size (w3.alloc (.cells (x.1.vals al gr) 27)) W':=by rw[World.size_alloc];exact h
  have q:=row_below h' (row_new w3 (x.1.vals al gr) 27 (0,0)) (by rw[vals_size];decide)
  have q2:∀ i v,#[.int .i64 k,.int .i64 id,.string key,.string rec,.string vol][i]?=some v→W'.cell? ⟨w.heap.size,i,none⟩=some v:=fun i v hv=>(h'.cell (p:=⟨w.heap.size,i,none⟩) (by show w.heap.size<_;simp;omega)).trans (((below_al' w3 _).cell (p:=⟨w.heap.size,i,none⟩) (by show w.heap.size<w3.heap.size;omega)).trans (cell_row HC3.out i v hv))
  exact⟨q,cell_row q 0 _ (vals_0 _ _ _),cell_row q 1 _ (vals_1 _ _ _),q2 0 _ rfl,q2 1 _ rfl,q2 2 _ rfl,H3.below h'⟩
 refine wp_region_held_drew (S:=fun w'=>row w' w3.heap.size=x.1.vals al gr∧w'.cell? ⟨w3.heap.size,0,none⟩=some (.int .i64 x.1.kind)∧w'.cell? ⟨w3.heap.size,1,none⟩=some (.string x.1.name)∧w'.cell? ⟨w.heap.size,0,none⟩=some (.int .i64 k)∧w'.cell? ⟨w.heap.size,1,none⟩=some (.int .i64 id)∧w'.cell? ⟨w.heap.size,2,none⟩=some (.string key)∧Held w' (w.heap.size+1) 33) (by kernel_rfl) ?_ (fun hHeld=>?_)
 · exact hKS (Below.drew (Below.refl _ _))
 obtain⟨W2,hW2⟩:∃ W2,(w3.alloc (.cells (x.1.vals al gr) 27)).drew=W2:=⟨_,rfl⟩
 rw[hW2] at hHeld ⊢
 have b2:Below (w3.heap.size+1) (w3.alloc (.cells (x.1.vals al gr) 27)) W2:=by rw[← hW2];exact Below.drew (Below.refl _ _)
 have z2:W2.heap.size=w3.heap.size+1:=by rw[← hW2];simp
 clear hW2
 by_cases hk:k=0
 rotate_left
 · rw[if_neg (fun h=>hk h.1)] at hP
   have t1:(k==0)=false:=by rw[beq_eq_false_iff_ne];exact hk
   clear hk hc
   refine rg_y (i:=0) (some 12) (v:=.agg (x.1.vals al gr)) rfl rfl (by kernel_rfl) (by kernel_rfl) (by kernel_rfl) (fun _ _ _ h=>h) (by kernel_rfl) (fun w' hS=>?_) (by assumption) ?_
   · refine (ldEnt _ w' _ _ _ _ _ _ (by rfl) (by show (row w' w3.heap.size).size=33;rw[hS.1];exact vals_size _ _ _)).trans ?_
     show Result.ok (Next.value (.agg (row w' w3.heap.size))) w'=_
     rw[hS.1]
   try simp only[Act.put,List.setIfInBounds_toArray,List.set_cons_zero,List.set_cons_succ]
   (refine rg_y (i:=1) (some 13) (v:=?_) rfl rfl (by kernel_rfl) (by kernel_rfl) (by kernel_rfl) (fun _ _ _ h=>h) (by kernel_rfl) ?_ (by assumption) ?_;rotate_left 1;focus (intro w hSw;(try dsimp only at hSw);(first | (go_simp;done) | (go_simp;with_reducible rfl)));(try simp only[Act.put,List.setIfInBounds_toArray,List.set_cons_zero,List.set_cons_succ]))
   (refine rg_y (i:=2) (some 14) (v:=?_) rfl rfl (by kernel_rfl) (by kernel_rfl) (by kernel_rfl) (fun _ _ _ h=>h) (by kernel_rfl) ?_ (by assumption) ?_;rotate_left 1;focus (intro w hSw;(try dsimp only at hSw);(first | (go_simp;done) | (go_simp;with_reducible rfl)));(try simp only[Act.put,List.setIfInBounds_toArray,List.set_cons_zero,List.set_cons_succ]))
   (refine rg_y (i:=3) (some 15) (v:=?_) rfl rfl (by kernel_rfl) (by kernel_rfl) (by kernel_rfl) (fun _ _ _ h=>h) (by kernel_rfl) ?_ (by assumption) ?_;rotate_left 1;focus (intro w hSw;(try dsimp only at hSw);(first | (go_simp;done) | (go_simp;with_reducible rfl)));(try simp only[Act.put,List.setIfInBounds_toArray,List.set_cons_zero,List.set_cons_succ]))
   (refine rg_y (i:=4) (some 16) (v:=?_) rfl rfl (by kernel_rfl) (by kernel_rfl) (by kernel_rfl) (fun _ _ _ h=>h) (by kernel_rfl) ?_ (by assumption) ?_;rotate_left 1;focus (intro w hSw;(try dsimp only at hSw);(first | (go_simp;done) | (go_simp;with_reducible rfl)));(try simp only[Act.put,List.setIfInBounds_toArray,List.set_cons_zero,List.set_cons_succ]))
   (refine rg_s (i:=5) (some 17) rfl rfl (by kernel_rfl) (by kernel_rfl) (by kernel_rfl) (fun _ _ _ h=>h) (by kernel_rfl) (by assumption) ?_;(try simp only[Act.put,List.setIfInBounds_toArray,List.set_cons_zero,List.set_cons_succ]))
   (refine rg_s (i:=6) (some 18) rfl rfl (by kernel_rfl) (by kernel_rfl) (by kernel_rfl) (fun _ _ _ h=>h) (by kernel_rfl) (by assumption) ?_;(try simp only[Act.put,List.setIfInBounds_toArray,List.set_cons_zero,List.set_cons_succ]))
   (refine rg_s (i:=7) (some 19) rfl rfl (by kernel_rfl) (by kernel_rfl) (by kernel_rfl) (fun _ _ _ h=>h) (by kernel_rfl) (by assumption) ?_;(try simp only[Act.put,List.setIfInBounds_toArray,List.set_cons_zero,List.set_cons_succ]))
   (refine rg_y (i:=8) (some 20) (v:=?_) rfl rfl (by kernel_rfl) (by kernel_rfl) (by kernel_rfl) (fun _ _ _ h=>h) (by kernel_rfl) ?_ (by assumption) ?_;rotate_left 1;focus (intro w hSw;(try dsimp only at hSw);(first | (go_simp;done) | (go_simp;with_reducible rfl)));(try simp only[Act.put,List.setIfInBounds_toArray,List.set_cons_zero,List.set_cons_succ]))
   (refine rg_y (i:=9) (some 21) (v:=?_) rfl rfl (by kernel_rfl) (by kernel_rfl) (by kernel_rfl) (fun _ _ _ h=>h) (by kernel_rfl) ?_ (by assumption) ?_;rotate_left 1;focus (intro w hSw;(try dsimp only at hSw);(first | (go_simp;done) | (go_simp;with_reducible rfl)));(try simp only[Act.put,List.setIfInBounds_toArray,List.set_cons_zero,List.set_cons_succ]))
   (refine rg_s (i:=10) (some 22) rfl rfl (by kernel_rfl) (by kernel_rfl) (by kernel_rfl) (fun _ _ _ h=>h) (by kernel_rfl) (by assumption) ?_;(try simp only[Act.put,List.setIfInBounds_toArray,List.set_cons_zero,List.set_cons_succ]))
   (refine rg_s (i:=11) (some 23) rfl rfl (by kernel_rfl) (by kernel_rfl) (by kernel_rfl) (fun _ _ _ h=>h) (by kernel_rfl) (by assumption) ?_;(try simp only[Act.put,List.setIfInBounds_toArray,List.set_cons_zero,List.set_cons_succ]))
   (refine rg_s (i:=12) (some 24) rfl rfl (by kernel_rfl) (by kernel_rfl) (by kernel_rfl) (fun _ _ _ h=>h) (by kernel_rfl) (by assumption) ?_;(try simp only[Act.put,List.setIfInBounds_toArray,List.set_cons_zero,List.set_cons_succ]))
   (refine rg_y (i:=13) (some 25) (v:=?_) rfl rfl (by kernel_rfl) (by kernel_rfl) (by kernel_rfl) (fun _ _ _ h=>h) (by kernel_rfl) ?_ (by assumption) ?_;rotate_left 1;focus (intro w hSw;(try dsimp only at hSw);(first | (go_simp;done) | (go_simp;with_reducible rfl)));(try simp only[Act.put,List.setIfInBounds_toArray,List.set_cons_zero,List.set_cons_succ]))
   (refine rg_y (i:=14) (some 26) (v:=?_) rfl rfl (by kernel_rfl) (by kernel_rfl) (by kernel_rfl) (fun _ _ _ h=>h) (by kernel_rfl) ?_ (by assumption) ?_;rotate_left 1;focus (intro w hSw;(try dsimp only at hSw);(first | (go_simp;done) | (go_simp;with_reducible rfl)));(try simp only[Act.put,List.setIfInBounds_toArray,List.set_cons_zero,List.set_cons_succ]))
   (refine rg_s (i:=15) (some 27) rfl rfl (by kernel_rfl) (by kernel_rfl) (by kernel_rfl) (fun _ _ _ h=>h) (by kernel_rfl) (by assumption) ?_;(try simp only[Act.put,List.setIfInBounds_toArray,List.set_cons_zero,List.set_cons_succ]))
   (refine rg_s (i:=16) (some 28) rfl rfl (by kernel_rfl) (by kernel_rfl) (by kernel_rfl) (fun _ _ _ h=>h) (by kernel_rfl) (by assumption) ?_;(try simp only[Act.put,List.setIfInBounds_toArray,List.set_cons_zero,List.set_cons_succ]))
   (refine rg_y (i:=17) (some 29) (v:=?_) rfl rfl (by kernel_rfl) (by kernel_rfl) (by kernel_rfl) (fun _ _ _ h=>h) (by kernel_rfl) ?_ (by assumption) ?_;rotate_left 1;focus (intro w hSw;(try dsimp only at hSw);(first | (go_simp;done) | (go_simp;with_reducible rfl)));(try simp only[Act.put,List.setIfInBounds_toArray,List.set_cons_zero,List.set_cons_succ]))
   (refine rg_y (i:=18) (some 30) (v:=?_) rfl rfl (by kernel_rfl) (by kernel_rfl) (by kernel_rfl) (fun _ _ _ h=>h) (by kernel_rfl) ?_ (by assumption) ?_;rotate_left 1;focus (intro w hSw;(try dsimp only at hSw);(first | (go_simp;done) | (go_simp;with_reducible rfl)));(try simp only[Act.put,List.setIfInBounds_toArray,List.set_cons_zero,List.set_cons_succ]))
   (refine rg_s (i:=19) (some 31) rfl rfl (by kernel_rfl) (by kernel_rfl) (by kernel_rfl) (fun _ _ _ h=>h) (by kernel_rfl) (by assumption) ?_;(try simp only[Act.put,List.setIfInBounds_toArray,List.set_cons_zero,List.set_cons_succ]))
   (refine rg_s (i:=20) (some 32) rfl rfl (by kernel_rfl) (by kernel_rfl) (by kernel_rfl) (fun _ _ _ h=>h) (by kernel_rfl) (by assumption) ?_;(try simp only[Act.put,List.setIfInBounds_toArray,List.set_cons_zero,List.set_cons_succ]))
   (refine rg_s (i:=21) (some 33) rfl rfl (by kernel_rfl) (by kernel_rfl) (by kernel_rfl) (fun _ _ _ h=>h) (by kernel_rfl) (by assumption) ?_;(try simp only[Act.put,List.setIfInBounds_toArray,List.set_cons_zero,List.set_cons_succ]))
   (refine rg_s (i:=22) (some 34) rfl rfl (by kernel_rfl) (by kernel_rfl) (by kernel_rfl) (fun _ _ _ h=>h) (by kernel_rfl) (by assumption) ?_;(try simp only[Act.put,List.setIfInBounds_toArray,List.set_cons_zero,List.set_cons_succ]))
   (refine rg_s (i:=23) (some 35) rfl rfl (by kernel_rfl) (by kernel_rfl) (by kernel_rfl) (fun _ _ _ h=>h) (by kernel_rfl) (by assumption) ?_;(try simp only[Act.put,List.setIfInBounds_toArray,List.set_cons_zero,List.set_cons_succ]))
   (refine rg_s (i:=24) (some 36) rfl rfl (by kernel_rfl) (by kernel_rfl) (by kernel_rfl) (fun _ _ _ h=>h) (by kernel_rfl) (by assumption) ?_;(try simp only[Act.put,List.setIfInBounds_toArray,List.set_cons_zero,List.set_cons_succ]))
   (refine rg_s (i:=25) (some 37) rfl rfl (by kernel_rfl) (by kernel_rfl) (by kernel_rfl) (fun _ _ _ h=>h) (by kernel_rfl) (by assumption) ?_;(try simp only[Act.put,List.setIfInBounds_toArray,List.set_cons_zero,List.set_cons_succ]))
   (refine rg_s (i:=26) (some 38) rfl rfl (by kernel_rfl) (by kernel_rfl) (by kernel_rfl) (fun _ _ _ h=>h) (by kernel_rfl) (by assumption) ?_;(try simp only[Act.put,List.setIfInBounds_toArray,List.set_cons_zero,List.set_cons_succ]))
   (refine rg_y (i:=27) (some 39) (v:=?_) rfl rfl (by kernel_rfl) (by kernel_rfl) (by kernel_rfl) (fun _ _ _ h=>h) (by kernel_rfl) ?_ (by assumption) ?_;rotate_left 1;focus (intro w hSw;(try dsimp only at hSw);(first | (go_simp;done) | (go_simp;with_reducible rfl)));(try simp only[Act.put,List.setIfInBounds_toArray,List.set_cons_zero,List.set_cons_succ]))
   have hSn:row (W2.setRow (w.heap.size+1) (x.1.vals al gr)) w3.heap.size=x.1.vals al gr∧(W2.setRow (w.heap.size+1) (x.1.vals al gr)).cell? ⟨w3.heap.size,0,none⟩=some (.int .i64 x.1.kind)∧(W2.setRow (w.heap.size+1) (x.1.vals al gr)).cell? ⟨w3.heap.size,1,none⟩=some (.string x.1.name)∧(W2.setRow (w.heap.size+1) (x.1.vals al gr)).cell? ⟨w.heap.size,0,none⟩=some (.int .i64 k)∧(W2.setRow (w.heap.size+1) (x.1.vals al gr)).cell? ⟨w.heap.size,1,none⟩=some (.int .i64 id)∧(W2.setRow (w.heap.size+1) (x.1.vals al gr)).cell? ⟨w.heap.size,2,none⟩=some (.string key)∧Held (W2.setRow (w.heap.size+1) (x.1.vals al gr)) (w.heap.size+1) 33:=by
    obtain⟨a1,a2,a3,a4,a5,a6,a7⟩:=hHeld
    have ne1:w3.heap.size≠w.heap.size+1:=by omega
    have ne2:w.heap.size≠w.heap.size+1:=by omega
    exact⟨(row_set_ne _ _ _ _ ne1).trans a1,(World.cell?_of_block (a:=⟨w3.heap.size,0,none⟩) (setRow_block _ _ _ _ ne1)).trans a2,(World.cell?_of_block (a:=⟨w3.heap.size,1,none⟩) (setRow_block _ _ _ _ ne1)).trans a3,(World.cell?_of_block (a:=⟨w.heap.size,0,none⟩) (setRow_block _ _ _ _ ne2)).trans a4,(World.cell?_of_block (a:=⟨w.heap.size,1,none⟩) (setRow_block _ _ _ _ ne2)).trans a5,(World.cell?_of_block (a:=⟨w.heap.size,2,none⟩) (setRow_block _ _ _ _ ne2)).trans a6,a7.set _ (fun _=>vals_size _ _ _)⟩
   have hHW:=hHeld.2.2.2.2.2.2
   refine rg_t (i:=28) none (W2.setRow (w.heap.size+1) (x.1.vals al gr)) rfl rfl (by kernel_rfl) (by kernel_rfl) (stEntRow _ _ _ _ _ _ _ _ _ (by rfl) (by exact hHW) (by rfl) (vals_size _ _ _) hone) hSn ?_
   try simp only[Act.put,List.setIfInBounds_toArray,List.set_cons_zero,List.set_cons_succ]
   (refine rg_y (i:=29) (some 3) (v:=?_) rfl rfl (by kernel_rfl) (by kernel_rfl) (by kernel_rfl) (fun _ _ _ h=>h) (by kernel_rfl) ?_ (by assumption) ?_;rotate_left 1;focus (intro w hSw;(try dsimp only at hSw);(first | (go_simp;done) | (go_simp;with_reducible rfl)));(try simp only[Act.put,List.setIfInBounds_toArray,List.set_cons_zero,List.set_cons_succ]))
   refine wpAnyH_done (by kernel_rfl) ?_ _
   clear hHeld hSn hKS
   go_wp2_with fail
   refine bodyPost_ret (res_row_tmp (n:=32) rfl Tryz.underlying27 rfl (by kernel_rfl) _ _ (w.heap.size+1) rfl (size_put hHW (vals_size _ _ _))) rfl ?_
   have b4:Below w3.heap.size w3 W2:=(below_al' _ _).trans (b2.mono (Nat.le_succ _))
   exact PutR.put (x:=x) hHW (bt B3.out b4) (HI.out.below b4) (HGS.out.below b4) (fun q hq=>by have:=HF1.out q hq;simp at this;omega) (fun q hq=>by have:=HF2.out q hq;simp at this;omega) (Or.inr ⟨hP.symm,rfl⟩)
 have t1:(k==0)=true:=by rw[hk];rfl
 by_cases h1:1≤id
 rotate_left
 · rw[if_neg (fun h=>h1 h.2.1)] at hP
   have t2:decide (1≤id)=false:=decide_eq_false h1
   clear hk h1 hc
   refine rg_y (i:=0) (some 12) (v:=.agg (x.1.vals al gr)) rfl rfl (by kernel_rfl) (by kernel_rfl) (by kernel_rfl) (fun _ _ _ h=>h) (by kernel_rfl) (fun w' hS=>?_) (by assumption) ?_
   · refine (ldEnt _ w' _ _ _ _ _ _ (by rfl) (by show (row w' w3.heap.size).size=33;rw[hS.1];exact vals_size _ _ _)).trans ?_
     show Result.ok (Next.value (.agg (row w' w3.heap.size))) w'=_
     rw[hS.1]
   try simp only[Act.put,List.setIfInBounds_toArray,List.set_cons_zero,List.set_cons_succ]
   (refine rg_y (i:=1) (some 13) (v:=?_) rfl rfl (by kernel_rfl) (by kernel_rfl) (by kernel_rfl) (fun _ _ _ h=>h) (by kernel_rfl) ?_ (by assumption) ?_;rotate_left 1;focus (intro w hSw;(try dsimp only at hSw);(first | (go_simp;done) | (go_simp;with_reducible rfl)));(try simp only[Act.put,List.setIfInBounds_toArray,List.set_cons_zero,List.set_cons_succ]))
   (refine rg_y (i:=2) (some 14) (v:=?_) rfl rfl (by kernel_rfl) (by kernel_rfl) (by kernel_rfl) (fun _ _ _ h=>h) (by kernel_rfl) ?_ (by assumption) ?_;rotate_left 1;focus (intro w hSw;(try dsimp only at hSw);(first | (go_simp;done) | (go_simp;with_reducible rfl)));(try simp only[Act.put,List.setIfInBounds_toArray,List.set_cons_zero,List.set_cons_succ]))
   (refine rg_y (i:=3) (some 15) (v:=?_) rfl rfl (by kernel_rfl) (by kernel_rfl) (by kernel_rfl) (fun _ _ _ h=>h) (by kernel_rfl) ?_ (by assumption) ?_;rotate_left 1;focus (intro w hSw;(try dsimp only at hSw);(first | (go_simp;done) | (go_simp;with_reducible rfl)));(try simp only[Act.put,List.setIfInBounds_toArray,List.set_cons_zero,List.set_cons_succ]))
   (refine rg_y (i:=4) (some 16) (v:=?_) rfl rfl (by kernel_rfl) (by kernel_rfl) (by kernel_rfl) (fun _ _ _ h=>h) (by kernel_rfl) ?_ (by assumption) ?_;rotate_left 1;focus (intro w hSw;(try dsimp only at hSw);(first | (go_simp;done) | (go_simp;with_reducible rfl)));(try simp only[Act.put,List.setIfInBounds_toArray,List.set_cons_zero,List.set_cons_succ]))
   (refine rg_y (i:=5) (some 17) (v:=?_) rfl rfl (by kernel_rfl) (by kernel_rfl) (by kernel_rfl) (fun _ _ _ h=>h) (by kernel_rfl) ?_ (by assumption) ?_;rotate_left 1;focus (intro w hSw;(try dsimp only at hSw);(first | (go_simp;done) | (go_simp;with_reducible rfl)));(try simp only[Act.put,List.setIfInBounds_toArray,List.set_cons_zero,List.set_cons_succ]))
   (refine rg_y (i:=6) (some 18) (v:=?_) rfl rfl (by kernel_rfl) (by kernel_rfl) (by kernel_rfl) (fun _ _ _ h=>h) (by kernel_rfl) ?_ (by assumption) ?_;rotate_left 1;focus (intro w hSw;(try dsimp only at hSw);(first | (go_simp;done) | (go_simp;with_reducible rfl)));(try simp only[Act.put,List.setIfInBounds_toArray,List.set_cons_zero,List.set_cons_succ]))
   (refine rg_y (i:=7) (some 19) (v:=?_) rfl rfl (by kernel_rfl) (by kernel_rfl) (by kernel_rfl) (fun _ _ _ h=>h) (by kernel_rfl) ?_ (by assumption) ?_;rotate_left 1;focus (intro w hSw;(try dsimp only at hSw);(first | (go_simp;done) | (go_simp;with_reducible rfl)));(try simp only[Act.put,List.setIfInBounds_toArray,List.set_cons_zero,List.set_cons_succ]))
   (refine rg_y (i:=8) (some 20) (v:=?_) rfl rfl (by kernel_rfl) (by kernel_rfl) (by kernel_rfl) (fun _ _ _ h=>h) (by kernel_rfl) ?_ (by assumption) ?_;rotate_left 1;focus (intro w hSw;(try dsimp only at hSw);(first | (go_simp;done) | (go_simp;with_reducible rfl)));(try simp only[Act.put,List.setIfInBounds_toArray,List.set_cons_zero,List.set_cons_succ]))
   (refine rg_y (i:=9) (some 21) (v:=?_) rfl rfl (by kernel_rfl) (by kernel_rfl) (by kernel_rfl) (fun _ _ _ h=>h) (by kernel_rfl) ?_ (by assumption) ?_;rotate_left 1;focus (intro w hSw;(try dsimp only at hSw);(first | (go_simp;done) | (go_simp;with_reducible rfl)));(try simp only[Act.put,List.setIfInBounds_toArray,List.set_cons_zero,List.set_cons_succ]))
   (refine rg_s (i:=10) (some 22) rfl rfl (by kernel_rfl) (by kernel_rfl) (by kernel_rfl) (fun _ _ _ h=>h) (by kernel_rfl) (by assumption) ?_;(try simp only[Act.put,List.setIfInBounds_toArray,List.set_cons_zero,List.set_cons_succ]))
   (refine rg_s (i:=11) (some 23) rfl rfl (by kernel_rfl) (by kernel_rfl) (by kernel_rfl) (fun _ _ _ h=>h) (by kernel_rfl) (by assumption) ?_;(try simp only[Act.put,List.setIfInBounds_toArray,List.set_cons_zero,List.set_cons_succ]))
   (refine rg_s (i:=12) (some 24) rfl rfl (by kernel_rfl) (by kernel_rfl) (by kernel_rfl) (fun _ _ _ h=>h) (by kernel_rfl) (by assumption) ?_;(try simp only[Act.put,List.setIfInBounds_toArray,List.set_cons_zero,List.set_cons_succ]))
   (refine rg_y (i:=13) (some 25) (v:=?_) rfl rfl (by kernel_rfl) (by kernel_rfl) (by kernel_rfl) (fun _ _ _ h=>h) (by kernel_rfl) ?_ (by assumption) ?_;rotate_left 1;focus (intro w hSw;(try dsimp only at hSw);(first | (go_simp;done) | (go_simp;with_reducible rfl)));(try simp only[Act.put,List.setIfInBounds_toArray,List.set_cons_zero,List.set_cons_succ]))
   (refine rg_y (i:=14) (some 26) (v:=?_) rfl rfl (by kernel_rfl) (by kernel_rfl) (by kernel_rfl) (fun _ _ _ h=>h) (by kernel_rfl) ?_ (by assumption) ?_;rotate_left 1;focus (intro w hSw;(try dsimp only at hSw);(first | (go_simp;done) | (go_simp;with_reducible rfl)));(try simp only[Act.put,List.setIfInBounds_toArray,List.set_cons_zero,List.set_cons_succ]))
   (refine rg_s (i:=15) (some 27) rfl rfl (by kernel_rfl) (by kernel_rfl) (by kernel_rfl) (fun _ _ _ h=>h) (by kernel_rfl) (by assumption) ?_;(try simp only[Act.put,List.setIfInBounds_toArray,List.set_cons_zero,List.set_cons_succ]))
   (refine rg_s (i:=16) (some 28) rfl rfl (by kernel_rfl) (by kernel_rfl) (by kernel_rfl) (fun _ _ _ h=>h) (by kernel_rfl) (by assumption) ?_;(try simp only[Act.put,List.setIfInBounds_toArray,List.set_cons_zero,List.set_cons_succ]))
   (refine rg_y (i:=17) (some 29) (v:=?_) rfl rfl (by kernel_rfl) (by kernel_rfl) (by kernel_rfl) (fun _ _ _ h=>h) (by kernel_rfl) ?_ (by assumption) ?_;rotate_left 1;focus (intro w hSw;(try dsimp only at hSw);(first | (go_simp;done) | (go_simp;with_reducible rfl)));(try simp only[Act.put,List.setIfInBounds_toArray,List.set_cons_zero,List.set_cons_succ]))
   (refine rg_y (i:=18) (some 30) (v:=?_) rfl rfl (by kernel_rfl) (by kernel_rfl) (by kernel_rfl) (fun _ _ _ h=>h) (by kernel_rfl) ?_ (by assumption) ?_;rotate_left 1;focus (intro w hSw;(try dsimp only at hSw);(first | (go_simp;done) | (go_simp;with_reducible rfl)));(try simp only[Act.put,List.setIfInBounds_toArray,List.set_cons_zero,List.set_cons_succ]))
   (refine rg_s (i:=19) (some 31) rfl rfl (by kernel_rfl) (by kernel_rfl) (by kernel_rfl) (fun _ _ _ h=>h) (by kernel_rfl) (by assumption) ?_;(try simp only[Act.put,List.setIfInBounds_toArray,List.set_cons_zero,List.set_cons_succ]))
   (refine rg_s (i:=20) (some 32) rfl rfl (by kernel_rfl) (by kernel_rfl) (by kernel_rfl) (fun _ _ _ h=>h) (by kernel_rfl) (by assumption) ?_;(try simp only[Act.put,List.setIfInBounds_toArray,List.set_cons_zero,List.set_cons_succ]))
   (refine rg_s (i:=21) (some 33) rfl rfl (by kernel_rfl) (by kernel_rfl) (by kernel_rfl) (fun _ _ _ h=>h) (by kernel_rfl) (by assumption) ?_;(try simp only[Act.put,List.setIfInBounds_toArray,List.set_cons_zero,List.set_cons_succ]))
   (refine rg_s (i:=22) (some 34) rfl rfl (by kernel_rfl) (by kernel_rfl) (by kernel_rfl) (fun _ _ _ h=>h) (by kernel_rfl) (by assumption) ?_;(try simp only[Act.put,List.setIfInBounds_toArray,List.set_cons_zero,List.set_cons_succ]))
   (refine rg_s (i:=23) (some 35) rfl rfl (by kernel_rfl) (by kernel_rfl) (by kernel_rfl) (fun _ _ _ h=>h) (by kernel_rfl) (by assumption) ?_;(try simp only[Act.put,List.setIfInBounds_toArray,List.set_cons_zero,List.set_cons_succ]))
   (refine rg_s (i:=24) (some 36) rfl rfl (by kernel_rfl) (by kernel_rfl) (by kernel_rfl) (fun _ _ _ h=>h) (by kernel_rfl) (by assumption) ?_;(try simp only[Act.put,List.setIfInBounds_toArray,List.set_cons_zero,List.set_cons_succ]))
   (refine rg_s (i:=25) (some 37) rfl rfl (by kernel_rfl) (by kernel_rfl) (by kernel_rfl) (fun _ _ _ h=>h) (by kernel_rfl) (by assumption) ?_;(try simp only[Act.put,List.setIfInBounds_toArray,List.set_cons_zero,List.set_cons_succ]))
   (refine rg_s (i:=26) (some 38) rfl rfl (by kernel_rfl) (by kernel_rfl) (by kernel_rfl) (fun _ _ _ h=>h) (by kernel_rfl) (by assumption) ?_;(try simp only[Act.put,List.setIfInBounds_toArray,List.set_cons_zero,List.set_cons_succ]))
   (refine rg_y (i:=27) (some 39) (v:=?_) rfl rfl (by kernel_rfl) (by kernel_rfl) (by kernel_rfl) (fun _ _ _ h=>h) (by kernel_rfl) ?_ (by assumption) ?_;rotate_left 1;focus (intro w hSw;(try dsimp only at hSw);(first | (go_simp;done) | (go_simp;with_reducible rfl)));(try simp only[Act.put,List.setIfInBounds_toArray,List.set_cons_zero,List.set_cons_succ]))
   have hSn:row (W2.setRow (w.heap.size+1) (x.1.vals al gr)) w3.heap.size=x.1.vals al gr∧(W2.setRow (w.heap.size+1) (x.1.vals al gr)).cell? ⟨w3.heap.size,0,none⟩=some (.int .i64 x.1.kind)∧(W2.setRow (w.heap.size+1) (x.1.vals al gr)).cell? ⟨w3.heap.size,1,none⟩=some (.string x.1.name)∧(W2.setRow (w.heap.size+1) (x.1.vals al gr)).cell? ⟨w.heap.size,0,none⟩=some (.int .i64 k)∧(W2.setRow (w.heap.size+1) (x.1.vals al gr)).cell? ⟨w.heap.size,1,none⟩=some (.int .i64 id)∧(W2.setRow (w.heap.size+1) (x.1.vals al gr)).cell? ⟨w.heap.size,2,none⟩=some (.string key)∧Held (W2.setRow (w.heap.size+1) (x.1.vals al gr)) (w.heap.size+1) 33:=by
    obtain⟨a1,a2,a3,a4,a5,a6,a7⟩:=hHeld
    have ne1:w3.heap.size≠w.heap.size+1:=by omega
    have ne2:w.heap.size≠w.heap.size+1:=by omega
    exact⟨(row_set_ne _ _ _ _ ne1).trans a1,(World.cell?_of_block (a:=⟨w3.heap.size,0,none⟩) (setRow_block _ _ _ _ ne1)).trans a2,(World.cell?_of_block (a:=⟨w3.heap.size,1,none⟩) (setRow_block _ _ _ _ ne1)).trans a3,(World.cell?_of_block (a:=⟨w.heap.size,0,none⟩) (setRow_block _ _ _ _ ne2)).trans a4,(World.cell?_of_block (a:=⟨w.heap.size,1,none⟩) (setRow_block _ _ _ _ ne2)).trans a5,(World.cell?_of_block (a:=⟨w.heap.size,2,none⟩) (setRow_block _ _ _ _ ne2)).trans a6,a7.set _ (fun _=>vals_size _ _ _)⟩
   have hHW:=hHeld.2.2.2.2.2.2
   refine rg_t (i:=28) none (W2.setRow (w.heap.size+1) (x.1.vals al gr)) rfl rfl (by kernel_rfl) (by kernel_rfl) (stEntRow _ _ _ _ _ _ _ _ _ (by rfl) (by exact hHW) (by rfl) (vals_size _ _ _) hone) hSn ?_
   try simp only[Act.put,List.setIfInBounds_toArray,List.set_cons_zero,List.set_cons_succ]
   (refine rg_y (i:=29) (some 3) (v:=?_) rfl rfl (by kernel_rfl) (by kernel_rfl) (by kernel_rfl) (fun _ _ _ h=>h) (by kernel_rfl) ?_ (by assumption) ?_;rotate_left 1;focus (intro w hSw;(try dsimp only at hSw);(first | (go_simp;done) | (go_simp;with_reducible rfl)));(try simp only[Act.put,List.setIfInBounds_toArray,List.set_cons_zero,List.set_cons_succ]))
   refine wpAnyH_done (by kernel_rfl) ?_ _
   clear hHeld hSn hKS
   go_wp2_with fail
   refine bodyPost_ret (res_row_tmp (n:=32) rfl Tryz.underlying27 rfl (by kernel_rfl) _ _ (w.heap.size+1) rfl (size_put hHW (vals_size _ _ _))) rfl ?_
   have b4:Below w3.heap.size w3 W2:=(below_al' _ _).trans (b2.mono (Nat.le_succ _))
   exact PutR.put (x:=x) hHW (bt B3.out b4) (HI.out.below b4) (HGS.out.below b4) (fun q hq=>by have:=HF1.out q hq;simp at this;omega) (fun q hq=>by have:=HF2.out q hq;simp at this;omega) (Or.inr ⟨hP.symm,rfl⟩)
 have t2:decide (1≤id)=true:=decide_eq_true h1
 by_cases h2:id≤15
 rotate_left
 · rw[if_neg (fun h=>h2 h.2.2)] at hP
   have t3:decide (id≤15)=false:=decide_eq_false h2
   clear hk h1 h2 hc
   refine rg_y (i:=0) (some 12) (v:=.agg (x.1.vals al gr)) rfl rfl (by kernel_rfl) (by kernel_rfl) (by kernel_rfl) (fun _ _ _ h=>h) (by kernel_rfl) (fun w' hS=>?_) (by assumption) ?_
   · refine (ldEnt _ w' _ _ _ _ _ _ (by rfl) (by show (row w' w3.heap.size).size=33;rw[hS.1];exact vals_size _ _ _)).trans ?_
     show Result.ok (Next.value (.agg (row w' w3.heap.size))) w'=_
     rw[hS.1]
   try simp only[Act.put,List.setIfInBounds_toArray,List.set_cons_zero,List.set_cons_succ]
   (refine rg_y (i:=1) (some 13) (v:=?_) rfl rfl (by kernel_rfl) (by kernel_rfl) (by kernel_rfl) (fun _ _ _ h=>h) (by kernel_rfl) ?_ (by assumption) ?_;rotate_left 1;focus (intro w hSw;(try dsimp only at hSw);(first | (go_simp;done) | (go_simp;with_reducible rfl)));(try simp only[Act.put,List.setIfInBounds_toArray,List.set_cons_zero,List.set_cons_succ]))
   (refine rg_y (i:=2) (some 14) (v:=?_) rfl rfl (by kernel_rfl) (by kernel_rfl) (by kernel_rfl) (fun _ _ _ h=>h) (by kernel_rfl) ?_ (by assumption) ?_;rotate_left 1;focus (intro w hSw;(try dsimp only at hSw);(first | (go_simp;done) | (go_simp;with_reducible rfl)));(try simp only[Act.put,List.setIfInBounds_toArray,List.set_cons_zero,List.set_cons_succ]))
   (refine rg_y (i:=3) (some 15) (v:=?_) rfl rfl (by kernel_rfl) (by kernel_rfl) (by kernel_rfl) (fun _ _ _ h=>h) (by kernel_rfl) ?_ (by assumption) ?_;rotate_left 1;focus (intro w hSw;(try dsimp only at hSw);(first | (go_simp;done) | (go_simp;with_reducible rfl)));(try simp only[Act.put,List.setIfInBounds_toArray,List.set_cons_zero,List.set_cons_succ]))
   (refine rg_y (i:=4) (some 16) (v:=?_) rfl rfl (by kernel_rfl) (by kernel_rfl) (by kernel_rfl) (fun _ _ _ h=>h) (by kernel_rfl) ?_ (by assumption) ?_;rotate_left 1;focus (intro w hSw;(try dsimp only at hSw);(first | (go_simp;done) | (go_simp;with_reducible rfl)));(try simp only[Act.put,List.setIfInBounds_toArray,List.set_cons_zero,List.set_cons_succ]))
   (refine rg_y (i:=5) (some 17) (v:=?_) rfl rfl (by kernel_rfl) (by kernel_rfl) (by kernel_rfl) (fun _ _ _ h=>h) (by kernel_rfl) ?_ (by assumption) ?_;rotate_left 1;focus (intro w hSw;(try dsimp only at hSw);(first | (go_simp;done) | (go_simp;with_reducible rfl)));(try simp only[Act.put,List.setIfInBounds_toArray,List.set_cons_zero,List.set_cons_succ]))
   (refine rg_y (i:=6) (some 18) (v:=?_) rfl rfl (by kernel_rfl) (by kernel_rfl) (by kernel_rfl) (fun _ _ _ h=>h) (by kernel_rfl) ?_ (by assumption) ?_;rotate_left 1;focus (intro w hSw;(try dsimp only at hSw);(first | (go_simp;done) | (go_simp;with_reducible rfl)));(try simp only[Act.put,List.setIfInBounds_toArray,List.set_cons_zero,List.set_cons_succ]))
   (refine rg_y (i:=7) (some 19) (v:=?_) rfl rfl (by kernel_rfl) (by kernel_rfl) (by kernel_rfl) (fun _ _ _ h=>h) (by kernel_rfl) ?_ (by assumption) ?_;rotate_left 1;focus (intro w hSw;(try dsimp only at hSw);(first | (go_simp;done) | (go_simp;with_reducible rfl)));(try simp only[Act.put,List.setIfInBounds_toArray,List.set_cons_zero,List.set_cons_succ]))
   (refine rg_y (i:=8) (some 20) (v:=?_) rfl rfl (by kernel_rfl) (by kernel_rfl) (by kernel_rfl) (fun _ _ _ h=>h) (by kernel_rfl) ?_ (by assumption) ?_;rotate_left 1;focus (intro w hSw;(try dsimp only at hSw);(first | (go_simp;done) | (go_simp;with_reducible rfl)));(try simp only[Act.put,List.setIfInBounds_toArray,List.set_cons_zero,List.set_cons_succ]))
   (refine rg_y (i:=9) (some 21) (v:=?_) rfl rfl (by kernel_rfl) (by kernel_rfl) (by kernel_rfl) (fun _ _ _ h=>h) (by kernel_rfl) ?_ (by assumption) ?_;rotate_left 1;focus (intro w hSw;(try dsimp only at hSw);(first | (go_simp;done) | (go_simp;with_reducible rfl)));(try simp only[Act.put,List.setIfInBounds_toArray,List.set_cons_zero,List.set_cons_succ]))
   (refine rg_y (i:=10) (some 22) (v:=?_) rfl rfl (by kernel_rfl) (by kernel_rfl) (by kernel_rfl) (fun _ _ _ h=>h) (by kernel_rfl) ?_ (by assumption) ?_;rotate_left 1;focus (intro w hSw;(try dsimp only at hSw);(first | (go_simp;done) | (go_simp;with_reducible rfl)));(try simp only[Act.put,List.setIfInBounds_toArray,List.set_cons_zero,List.set_cons_succ]))
   (refine rg_y (i:=11) (some 23) (v:=?_) rfl rfl (by kernel_rfl) (by kernel_rfl) (by kernel_rfl) (fun _ _ _ h=>h) (by kernel_rfl) ?_ (by assumption) ?_;rotate_left 1;focus (intro w hSw;(try dsimp only at hSw);(first | (go_simp;done) | (go_simp;with_reducible rfl)));(try simp only[Act.put,List.setIfInBounds_toArray,List.set_cons_zero,List.set_cons_succ]))
   (refine rg_y (i:=12) (some 24) (v:=?_) rfl rfl (by kernel_rfl) (by kernel_rfl) (by kernel_rfl) (fun _ _ _ h=>h) (by kernel_rfl) ?_ (by assumption) ?_;rotate_left 1;focus (intro w hSw;(try dsimp only at hSw);(first | (go_simp;done) | (go_simp;with_reducible rfl)));(try simp only[Act.put,List.setIfInBounds_toArray,List.set_cons_zero,List.set_cons_succ]))
   (refine rg_y (i:=13) (some 25) (v:=?_) rfl rfl (by kernel_rfl) (by kernel_rfl) (by kernel_rfl) (fun _ _ _ h=>h) (by kernel_rfl) ?_ (by assumption) ?_;rotate_left 1;focus (intro w hSw;(try dsimp only at hSw);(first | (go_simp;done) | (go_simp;with_reducible rfl)));(try simp only[Act.put,List.setIfInBounds_toArray,List.set_cons_zero,List.set_cons_succ]))
   (refine rg_y (i:=14) (some 26) (v:=?_) rfl rfl (by kernel_rfl) (by kernel_rfl) (by kernel_rfl) (fun _ _ _ h=>h) (by kernel_rfl) ?_ (by assumption) ?_;rotate_left 1;focus (intro w hSw;(try dsimp only at hSw);(first | (go_simp;done) | (go_simp;with_reducible rfl)));(try simp only[Act.put,List.setIfInBounds_toArray,List.set_cons_zero,List.set_cons_succ]))
   (refine rg_s (i:=15) (some 27) rfl rfl (by kernel_rfl) (by kernel_rfl) (by kernel_rfl) (fun _ _ _ h=>h) (by kernel_rfl) (by assumption) ?_;(try simp only[Act.put,List.setIfInBounds_toArray,List.set_cons_zero,List.set_cons_succ]))
   (refine rg_s (i:=16) (some 28) rfl rfl (by kernel_rfl) (by kernel_rfl) (by kernel_rfl) (fun _ _ _ h=>h) (by kernel_rfl) (by assumption) ?_;(try simp only[Act.put,List.setIfInBounds_toArray,List.set_cons_zero,List.set_cons_succ]))
   (refine rg_y (i:=17) (some 29) (v:=?_) rfl rfl (by kernel_rfl) (by kernel_rfl) (by kernel_rfl) (fun _ _ _ h=>h) (by kernel_rfl) ?_ (by assumption) ?_;rotate_left 1;focus (intro w hSw;(try dsimp only at hSw);(first | (go_simp;done) | (go_simp;with_reducible rfl)));(try simp only[Act.put,List.setIfInBounds_toArray,List.set_cons_zero,List.set_cons_succ]))
   (refine rg_y (i:=18) (some 30) (v:=?_) rfl rfl (by kernel_rfl) (by kernel_rfl) (by kernel_rfl) (fun _ _ _ h=>h) (by kernel_rfl) ?_ (by assumption) ?_;rotate_left 1;focus (intro w hSw;(try dsimp only at hSw);(first | (go_simp;done) | (go_simp;with_reducible rfl)));(try simp only[Act.put,List.setIfInBounds_toArray,List.set_cons_zero,List.set_cons_succ]))
   (refine rg_s (i:=19) (some 31) rfl rfl (by kernel_rfl) (by kernel_rfl) (by kernel_rfl) (fun _ _ _ h=>h) (by kernel_rfl) (by assumption) ?_;(try simp only[Act.put,List.setIfInBounds_toArray,List.set_cons_zero,List.set_cons_succ]))
   (refine rg_s (i:=20) (some 32) rfl rfl (by kernel_rfl) (by kernel_rfl) (by kernel_rfl) (fun _ _ _ h=>h) (by kernel_rfl) (by assumption) ?_;(try simp only[Act.put,List.setIfInBounds_toArray,List.set_cons_zero,List.set_cons_succ]))
   (refine rg_s (i:=21) (some 33) rfl rfl (by kernel_rfl) (by kernel_rfl) (by kernel_rfl) (fun _ _ _ h=>h) (by kernel_rfl) (by assumption) ?_;(try simp only[Act.put,List.setIfInBounds_toArray,List.set_cons_zero,List.set_cons_succ]))
   (refine rg_s (i:=22) (some 34) rfl rfl (by kernel_rfl) (by kernel_rfl) (by kernel_rfl) (fun _ _ _ h=>h) (by kernel_rfl) (by assumption) ?_;(try simp only[Act.put,List.setIfInBounds_toArray,List.set_cons_zero,List.set_cons_succ]))
   (refine rg_s (i:=23) (some 35) rfl rfl (by kernel_rfl) (by kernel_rfl) (by kernel_rfl) (fun _ _ _ h=>h) (by kernel_rfl) (by assumption) ?_;(try simp only[Act.put,List.setIfInBounds_toArray,List.set_cons_zero,List.set_cons_succ]))
   (refine rg_s (i:=24) (some 36) rfl rfl (by kernel_rfl) (by kernel_rfl) (by kernel_rfl) (fun _ _ _ h=>h) (by kernel_rfl) (by assumption) ?_;(try simp only[Act.put,List.setIfInBounds_toArray,List.set_cons_zero,List.set_cons_succ]))
   (refine rg_s (i:=25) (some 37) rfl rfl (by kernel_rfl) (by kernel_rfl) (by kernel_rfl) (fun _ _ _ h=>h) (by kernel_rfl) (by assumption) ?_;(try simp only[Act.put,List.setIfInBounds_toArray,List.set_cons_zero,List.set_cons_succ]))
   (refine rg_s (i:=26) (some 38) rfl rfl (by kernel_rfl) (by kernel_rfl) (by kernel_rfl) (fun _ _ _ h=>h) (by kernel_rfl) (by assumption) ?_;(try simp only[Act.put,List.setIfInBounds_toArray,List.set_cons_zero,List.set_cons_succ]))
   (refine rg_y (i:=27) (some 39) (v:=?_) rfl rfl (by kernel_rfl) (by kernel_rfl) (by kernel_rfl) (fun _ _ _ h=>h) (by kernel_rfl) ?_ (by assumption) ?_;rotate_left 1;focus (intro w hSw;(try dsimp only at hSw);(first | (go_simp;done) | (go_simp;with_reducible rfl)));(try simp only[Act.put,List.setIfInBounds_toArray,List.set_cons_zero,List.set_cons_succ]))
   have hSn:row (W2.setRow (w.heap.size+1) (x.1.vals al gr)) w3.heap.size=x.1.vals al gr∧(W2.setRow (w.heap.size+1) (x.1.vals al gr)).cell? ⟨w3.heap.size,0,none⟩=some (.int .i64 x.1.kind)∧(W2.setRow (w.heap.size+1) (x.1.vals al gr)).cell? ⟨w3.heap.size,1,none⟩=some (.string x.1.name)∧(W2.setRow (w.heap.size+1) (x.1.vals al gr)).cell? ⟨w.heap.size,0,none⟩=some (.int .i64 k)∧(W2.setRow (w.heap.size+1) (x.1.vals al gr)).cell? ⟨w.heap.size,1,none⟩=some (.int .i64 id)∧(W2.setRow (w.heap.size+1) (x.1.vals al gr)).cell? ⟨w.heap.size,2,none⟩=some (.string key)∧Held (W2.setRow (w.heap.size+1) (x.1.vals al gr)) (w.heap.size+1) 33:=by
    obtain⟨a1,a2,a3,a4,a5,a6,a7⟩:=hHeld
    have ne1:w3.heap.size≠w.heap.size+1:=by omega
    have ne2:w.heap.size≠w.heap.size+1:=by omega
    exact⟨(row_set_ne _ _ _ _ ne1).trans a1,(World.cell?_of_block (a:=⟨w3.heap.size,0,none⟩) (setRow_block _ _ _ _ ne1)).trans a2,(World.cell?_of_block (a:=⟨w3.heap.size,1,none⟩) (setRow_block _ _ _ _ ne1)).trans a3,(World.cell?_of_block (a:=⟨w.heap.size,0,none⟩) (setRow_block _ _ _ _ ne2)).trans a4,(World.cell?_of_block (a:=⟨w.heap.size,1,none⟩) (setRow_block _ _ _ _ ne2)).trans a5,(World.cell?_of_block (a:=⟨w.heap.size,2,none⟩) (setRow_block _ _ _ _ ne2)).trans a6,a7.set _ (fun _=>vals_size _ _ _)⟩
   have hHW:=hHeld.2.2.2.2.2.2
   refine rg_t (i:=28) none (W2.setRow (w.heap.size+1) (x.1.vals al gr)) rfl rfl (by kernel_rfl) (by kernel_rfl) (stEntRow _ _ _ _ _ _ _ _ _ (by rfl) (by exact hHW) (by rfl) (vals_size _ _ _) hone) hSn ?_
   try simp only[Act.put,List.setIfInBounds_toArray,List.set_cons_zero,List.set_cons_succ]
   (refine rg_y (i:=29) (some 3) (v:=?_) rfl rfl (by kernel_rfl) (by kernel_rfl) (by kernel_rfl) (fun _ _ _ h=>h) (by kernel_rfl) ?_ (by assumption) ?_;rotate_left 1;focus (intro w hSw;(try dsimp only at hSw);(first | (go_simp;done) | (go_simp;with_reducible rfl)));(try simp only[Act.put,List.setIfInBounds_toArray,List.set_cons_zero,List.set_cons_succ]))
   refine wpAnyH_done (by kernel_rfl) ?_ _
   clear hHeld hSn hKS
   go_wp2_with fail
   refine bodyPost_ret (res_row_tmp (n:=32) rfl Tryz.underlying27 rfl (by kernel_rfl) _ _ (w.heap.size+1) rfl (size_put hHW (vals_size _ _ _))) rfl ?_
   have b4:Below w3.heap.size w3 W2:=(below_al' _ _).trans (b2.mono (Nat.le_succ _))
   exact PutR.put (x:=x) hHW (bt B3.out b4) (HI.out.below b4) (HGS.out.below b4) (fun q hq=>by have:=HF1.out q hq;simp at this;omega) (fun q hq=>by have:=HF2.out q hq;simp at this;omega) (Or.inr ⟨hP.symm,rfl⟩)
 have t3:decide (id≤15)=true:=decide_eq_true h2
 rw[if_pos ⟨hk,h1,h2⟩] at hP
 have hky:=keyZ_eq x key
 clear hk h1 h2
 rcases hc with ⟨hd,rfl⟩ | ⟨hd,rfl,rfl⟩
 · rw[hd] at hP
   dsimp only at hP
   have HK:=Lib.hid (fun W=>r35_key x.1.kind x.1.name W)
   clear hd
   by_cases hke:keyX x=Ds.bl key
   · rw[if_pos hke] at hP
     rw[decide_eq_true hke] at hky
     clear hke
     generalize keyZ x.1.kind x.1.name=kz at hky HK
     refine rg_y (i:=0) (some 12) (v:=.agg (x.1.vals al gr)) rfl rfl (by kernel_rfl) (by kernel_rfl) (by kernel_rfl) (fun _ _ _ h=>h) (by kernel_rfl) (fun w' hS=>?_) (by assumption) ?_
     · refine (ldEnt _ w' _ _ _ _ _ _ (by rfl) (by show (row w' w3.heap.size).size=33;rw[hS.1];exact vals_size _ _ _)).trans ?_
       show Result.ok (Next.value (.agg (row w' w3.heap.size))) w'=_
       rw[hS.1]
     try simp only[Act.put,List.setIfInBounds_toArray,List.set_cons_zero,List.set_cons_succ]
     (refine rg_y (i:=1) (some 13) (v:=?_) rfl rfl (by kernel_rfl) (by kernel_rfl) (by kernel_rfl) (fun _ _ _ h=>h) (by kernel_rfl) ?_ (by assumption) ?_;rotate_left 1;focus (intro w hSw;(try dsimp only at hSw);(first | (go_simp;done) | (go_simp;with_reducible rfl)));(try simp only[Act.put,List.setIfInBounds_toArray,List.set_cons_zero,List.set_cons_succ]))
     (refine rg_y (i:=2) (some 14) (v:=?_) rfl rfl (by kernel_rfl) (by kernel_rfl) (by kernel_rfl) (fun _ _ _ h=>h) (by kernel_rfl) ?_ (by assumption) ?_;rotate_left 1;focus (intro w hSw;(try dsimp only at hSw);(first | (go_simp;done) | (go_simp;with_reducible rfl)));(try simp only[Act.put,List.setIfInBounds_toArray,List.set_cons_zero,List.set_cons_succ]))
     (refine rg_y (i:=3) (some 15) (v:=?_) rfl rfl (by kernel_rfl) (by kernel_rfl) (by kernel_rfl) (fun _ _ _ h=>h) (by kernel_rfl) ?_ (by assumption) ?_;rotate_left 1;focus (intro w hSw;(try dsimp only at hSw);(first | (go_simp;done) | (go_simp;with_reducible rfl)));(try simp only[Act.put,List.setIfInBounds_toArray,List.set_cons_zero,List.set_cons_succ]))
     (refine rg_y (i:=4) (some 16) (v:=?_) rfl rfl (by kernel_rfl) (by kernel_rfl) (by kernel_rfl) (fun _ _ _ h=>h) (by kernel_rfl) ?_ (by assumption) ?_;rotate_left 1;focus (intro w hSw;(try dsimp only at hSw);(first | (go_simp;done) | (go_simp;with_reducible rfl)));(try simp only[Act.put,List.setIfInBounds_toArray,List.set_cons_zero,List.set_cons_succ]))
     (refine rg_y (i:=5) (some 17) (v:=?_) rfl rfl (by kernel_rfl) (by kernel_rfl) (by kernel_rfl) (fun _ _ _ h=>h) (by kernel_rfl) ?_ (by assumption) ?_;rotate_left 1;focus (intro w hSw;(try dsimp only at hSw);(first | (go_simp;done) | (go_simp;with_reducible rfl)));(try simp only[Act.put,List.setIfInBounds_toArray,List.set_cons_zero,List.set_cons_succ]))
     (refine rg_y (i:=6) (some 18) (v:=?_) rfl rfl (by kernel_rfl) (by kernel_rfl) (by kernel_rfl) (fun _ _ _ h=>h) (by kernel_rfl) ?_ (by assumption) ?_;rotate_left 1;focus (intro w hSw;(try dsimp only at hSw);(first | (go_simp;done) | (go_simp;with_reducible rfl)));(try simp only[Act.put,List.setIfInBounds_toArray,List.set_cons_zero,List.set_cons_succ]))
     (refine rg_y (i:=7) (some 19) (v:=?_) rfl rfl (by kernel_rfl) (by kernel_rfl) (by kernel_rfl) (fun _ _ _ h=>h) (by kernel_rfl) ?_ (by assumption) ?_;rotate_left 1;focus (intro w hSw;(try dsimp only at hSw);(first | (go_simp;done) | (go_simp;with_reducible rfl)));(try simp only[Act.put,List.setIfInBounds_toArray,List.set_cons_zero,List.set_cons_succ]))
     (refine rg_y (i:=8) (some 20) (v:=?_) rfl rfl (by kernel_rfl) (by kernel_rfl) (by kernel_rfl) (fun _ _ _ h=>h) (by kernel_rfl) ?_ (by assumption) ?_;rotate_left 1;focus (intro w hSw;(try dsimp only at hSw);(first | (go_simp;done) | (go_simp;with_reducible rfl)));(try simp only[Act.put,List.setIfInBounds_toArray,List.set_cons_zero,List.set_cons_succ]))
     (refine rg_y (i:=9) (some 21) (v:=?_) rfl rfl (by kernel_rfl) (by kernel_rfl) (by kernel_rfl) (fun _ _ _ h=>h) (by kernel_rfl) ?_ (by assumption) ?_;rotate_left 1;focus (intro w hSw;(try dsimp only at hSw);(first | (go_simp;done) | (go_simp;with_reducible rfl)));(try simp only[Act.put,List.setIfInBounds_toArray,List.set_cons_zero,List.set_cons_succ]))
     (refine rg_y (i:=10) (some 22) (v:=?_) rfl rfl (by kernel_rfl) (by kernel_rfl) (by kernel_rfl) (fun _ _ _ h=>h) (by kernel_rfl) ?_ (by assumption) ?_;rotate_left 1;focus (intro w hSw;(try dsimp only at hSw);(first | (go_simp;done) | (go_simp;with_reducible rfl)));(try simp only[Act.put,List.setIfInBounds_toArray,List.set_cons_zero,List.set_cons_succ]))
     (refine rg_y (i:=11) (some 23) (v:=?_) rfl rfl (by kernel_rfl) (by kernel_rfl) (by kernel_rfl) (fun _ _ _ h=>h) (by kernel_rfl) ?_ (by assumption) ?_;rotate_left 1;focus (intro w hSw;(try dsimp only at hSw);(first | (go_simp;done) | (go_simp;with_reducible rfl)));(try simp only[Act.put,List.setIfInBounds_toArray,List.set_cons_zero,List.set_cons_succ]))
     (refine rg_y (i:=12) (some 24) (v:=?_) rfl rfl (by kernel_rfl) (by kernel_rfl) (by kernel_rfl) (fun _ _ _ h=>h) (by kernel_rfl) ?_ (by assumption) ?_;rotate_left 1;focus (intro w hSw;(try dsimp only at hSw);(first | (go_simp;done) | (go_simp;with_reducible rfl)));(try simp only[Act.put,List.setIfInBounds_toArray,List.set_cons_zero,List.set_cons_succ]))
     (refine rg_y (i:=13) (some 25) (v:=?_) rfl rfl (by kernel_rfl) (by kernel_rfl) (by kernel_rfl) (fun _ _ _ h=>h) (by kernel_rfl) ?_ (by assumption) ?_;rotate_left 1;focus (intro w hSw;(try dsimp only at hSw);(first | (go_simp;done) | (go_simp;with_reducible rfl)));(try simp only[Act.put,List.setIfInBounds_toArray,List.set_cons_zero,List.set_cons_succ]))
     (refine rg_y (i:=14) (some 26) (v:=?_) rfl rfl (by kernel_rfl) (by kernel_rfl) (by kernel_rfl) (fun _ _ _ h=>h) (by kernel_rfl) ?_ (by assumption) ?_;rotate_left 1;focus (intro w hSw;(try dsimp only at hSw);(first | (go_simp;done) | (go_simp;with_reducible rfl)));(try simp only[Act.put,List.setIfInBounds_toArray,List.set_cons_zero,List.set_cons_succ]))
     (refine rg_y (i:=15) (some 27) (v:=?_) rfl rfl (by kernel_rfl) (by kernel_rfl) (by kernel_rfl) (fun _ _ _ h=>h) (by kernel_rfl) ?_ (by assumption) ?_;rotate_left 1;focus (intro w hSw;(try dsimp only at hSw);(first | (go_simp;done) | (go_simp;with_reducible rfl)));(try simp only[Act.put,List.setIfInBounds_toArray,List.set_cons_zero,List.set_cons_succ]))
     (refine rg_y (i:=16) (some 28) (v:=?_) rfl rfl (by kernel_rfl) (by kernel_rfl) (by kernel_rfl) (fun _ _ _ h=>h) (by kernel_rfl) ?_ (by assumption) ?_;rotate_left 1;focus (intro w hSw;(try dsimp only at hSw);(first | (go_simp;done) | (go_simp;with_reducible rfl)));(try simp only[Act.put,List.setIfInBounds_toArray,List.set_cons_zero,List.set_cons_succ]))
     (refine rg_y (i:=17) (some 29) (v:=?_) rfl rfl (by kernel_rfl) (by kernel_rfl) (by kernel_rfl) (fun _ _ _ h=>h) (by kernel_rfl) ?_ (by assumption) ?_;rotate_left 1;focus (intro w hSw;(try dsimp only at hSw);(first | (go_simp;done) | (go_simp;with_reducible rfl)));(try simp only[Act.put,List.setIfInBounds_toArray,List.set_cons_zero,List.set_cons_succ]))
     (refine rg_y (i:=18) (some 30) (v:=?_) rfl rfl (by kernel_rfl) (by kernel_rfl) (by kernel_rfl) (fun _ _ _ h=>h) (by kernel_rfl) ?_ (by assumption) ?_;rotate_left 1;focus (intro w hSw;(try dsimp only at hSw);(first | (go_simp;done) | (go_simp;with_reducible rfl)));(try simp only[Act.put,List.setIfInBounds_toArray,List.set_cons_zero,List.set_cons_succ]))
     (refine rg_y (i:=19) (some 31) (v:=?_) rfl rfl (by kernel_rfl) (by kernel_rfl) (by kernel_rfl) (fun _ _ _ h=>h) (by kernel_rfl) ?_ (by assumption) ?_;rotate_left 1;focus (intro w hSw;(try dsimp only at hSw);(first | (go_simp;done) | (go_simp;with_reducible rfl)));(try simp only[Act.put,List.setIfInBounds_toArray,List.set_cons_zero,List.set_cons_succ]))
     (refine rg_y (i:=20) (some 32) (v:=?_) rfl rfl (by kernel_rfl) (by kernel_rfl) (by kernel_rfl) (fun _ _ _ h=>h) (by kernel_rfl) ?_ (by assumption) ?_;rotate_left 1;focus (intro w hSw;(try dsimp only at hSw);(first | (go_simp;done) | (go_simp;with_reducible rfl)));(try simp only[Act.put,List.setIfInBounds_toArray,List.set_cons_zero,List.set_cons_succ]))
     (refine rg_y (i:=21) (some 33) (v:=?_) rfl rfl (by kernel_rfl) (by kernel_rfl) (by kernel_rfl) (fun _ _ _ h=>h) (by kernel_rfl) ?_ (by assumption) ?_;rotate_left 1;focus (intro w hSw;(try dsimp only at hSw);(first | (go_simp;done) | (go_simp;with_reducible rfl)));(try simp only[Act.put,List.setIfInBounds_toArray,List.set_cons_zero,List.set_cons_succ]))
     (refine rg_y (i:=22) (some 34) (v:=?_) rfl rfl (by kernel_rfl) (by kernel_rfl) (by kernel_rfl) (fun _ _ _ h=>h) (by kernel_rfl) ?_ (by assumption) ?_;rotate_left 1;focus (intro w hSw;(try dsimp only at hSw);(first | (go_simp;done) | (go_simp;with_reducible rfl)));(try simp only[Act.put,List.setIfInBounds_toArray,List.set_cons_zero,List.set_cons_succ]))
     (refine rg_y (i:=24) (some 36) (v:=?_) rfl rfl (by kernel_rfl) (by kernel_rfl) (by kernel_rfl) (fun _ _ _ h=>h) (by kernel_rfl) ?_ (by assumption) ?_;rotate_left 1;focus (intro w hSw;(try dsimp only at hSw);(first | (go_simp;done) | (go_simp;with_reducible rfl)));(try simp only[Act.put,List.setIfInBounds_toArray,List.set_cons_zero,List.set_cons_succ]))
     (refine rg_y (i:=25) (some 37) (v:=?_) rfl rfl (by kernel_rfl) (by kernel_rfl) (by kernel_rfl) (fun _ _ _ h=>h) (by kernel_rfl) ?_ (by assumption) ?_;rotate_left 1;focus (intro w hSw;(try dsimp only at hSw);(first | (go_simp;done) | (go_simp;with_reducible rfl)));(try simp only[Act.put,List.setIfInBounds_toArray,List.set_cons_zero,List.set_cons_succ]))
     (refine wpAnyH_ready (rs:=[23]) (by kernel_rfl) (by simp) ?_;refine AllReadyH.cons (o:=_) rfl (fun K hK=>?_) AllReadyH.nil)
     go_simp
     go_at_call 15
     refine (HK.out _).mono ?_
     rintro _ w5 ⟨rfl,rfl⟩
     have b5:=b2
     refine hK.out _ _ (hKS b5) (fun hHeld=>?_)
     (clear hK K;(try simp only[Act.put,List.setIfInBounds_toArray,List.set_cons_zero,List.set_cons_succ]))
     (refine rg_y (i:=26) (some 38) (v:=?_) rfl rfl (by kernel_rfl) (by kernel_rfl) (by kernel_rfl) (fun _ _ _ h=>h) (by kernel_rfl) ?_ (by assumption) ?_;rotate_left 1;focus (intro w hSw;(try dsimp only at hSw);(first | (go_simp;done) | (go_simp;with_reducible rfl)));(try simp only[Act.put,List.setIfInBounds_toArray,List.set_cons_zero,List.set_cons_succ]))
     (refine rg_y (i:=27) (some 39) (v:=?_) rfl rfl (by kernel_rfl) (by kernel_rfl) (by kernel_rfl) (fun _ _ _ h=>h) (by kernel_rfl) ?_ (by assumption) ?_;rotate_left 1;focus (intro w hSw;(try dsimp only at hSw);(first | (go_simp;done) | (go_simp;with_reducible rfl)));(try simp only[Act.put,List.setIfInBounds_toArray,List.set_cons_zero,List.set_cons_succ]))
     have hSn:row (W2.setRow (w.heap.size+1) (x.1.vals al gr)) w3.heap.size=x.1.vals al gr∧(W2.setRow (w.heap.size+1) (x.1.vals al gr)).cell? ⟨w3.heap.size,0,none⟩=some (.int .i64 x.1.kind)∧(W2.setRow (w.heap.size+1) (x.1.vals al gr)).cell? ⟨w3.heap.size,1,none⟩=some (.string x.1.name)∧(W2.setRow (w.heap.size+1) (x.1.vals al gr)).cell? ⟨w.heap.size,0,none⟩=some (.int .i64 k)∧(W2.setRow (w.heap.size+1) (x.1.vals al gr)).cell? ⟨w.heap.size,1,none⟩=some (.int .i64 id)∧(W2.setRow (w.heap.size+1) (x.1.vals al gr)).cell? ⟨w.heap.size,2,none⟩=some (.string key)∧Held (W2.setRow (w.heap.size+1) (x.1.vals al gr)) (w.heap.size+1) 33:=by
      obtain⟨a1,a2,a3,a4,a5,a6,a7⟩:=hHeld
      have ne1:w3.heap.size≠w.heap.size+1:=by omega
      have ne2:w.heap.size≠w.heap.size+1:=by omega
      exact⟨(row_set_ne _ _ _ _ ne1).trans a1,(World.cell?_of_block (a:=⟨w3.heap.size,0,none⟩) (setRow_block _ _ _ _ ne1)).trans a2,(World.cell?_of_block (a:=⟨w3.heap.size,1,none⟩) (setRow_block _ _ _ _ ne1)).trans a3,(World.cell?_of_block (a:=⟨w.heap.size,0,none⟩) (setRow_block _ _ _ _ ne2)).trans a4,(World.cell?_of_block (a:=⟨w.heap.size,1,none⟩) (setRow_block _ _ _ _ ne2)).trans a5,(World.cell?_of_block (a:=⟨w.heap.size,2,none⟩) (setRow_block _ _ _ _ ne2)).trans a6,a7.set _ (fun _=>vals_size _ _ _)⟩
     have hHW:=hHeld.2.2.2.2.2.2
     refine rg_t (i:=28) none (W2.setRow (w.heap.size+1) (x.1.vals al gr)) rfl rfl (by kernel_rfl) (by kernel_rfl) (stEntRow _ _ _ _ _ _ _ _ _ (by rfl) (by exact hHW) (by rfl) (vals_size _ _ _) hone) hSn ?_
     try simp only[Act.put,List.setIfInBounds_toArray,List.set_cons_zero,List.set_cons_succ]
     (refine rg_y (i:=29) (some 3) (v:=?_) rfl rfl (by kernel_rfl) (by kernel_rfl) (by kernel_rfl) (fun _ _ _ h=>h) (by kernel_rfl) ?_ (by assumption) ?_;rotate_left 1;focus (intro w hSw;(try dsimp only at hSw);(first | (go_simp;done) | (go_simp;with_reducible rfl)));(try simp only[Act.put,List.setIfInBounds_toArray,List.set_cons_zero,List.set_cons_succ]))
     refine wpAnyH_done (by kernel_rfl) ?_ _
     clear hHeld hSn hKS
     go_wp2_with fail
     refine bodyPost_ret (res_row_tmp (n:=32) rfl Tryz.underlying27 rfl (by kernel_rfl) _ _ (w.heap.size+1) rfl (size_put hHW (vals_size _ _ _))) rfl ?_
     have b4:Below w3.heap.size w3 W2:=(below_al' _ _).trans (b2.mono (Nat.le_succ _))
     exact PutR.put (x:=x) hHW (bt B3.out b4) (HI.out.below b4) (HGS.out.below b4) (fun q hq=>by have:=HF1.out q hq;simp at this;omega) (fun q hq=>by have:=HF2.out q hq;simp at this;omega) (Or.inl ⟨hP.symm,rfl⟩)
   · rw[if_neg hke] at hP
     rw[decide_eq_false hke] at hky
     clear hke
     generalize keyZ x.1.kind x.1.name=kz at hky HK
     refine rg_y (i:=0) (some 12) (v:=.agg (x.1.vals al gr)) rfl rfl (by kernel_rfl) (by kernel_rfl) (by kernel_rfl) (fun _ _ _ h=>h) (by kernel_rfl) (fun w' hS=>?_) (by assumption) ?_
     · refine (ldEnt _ w' _ _ _ _ _ _ (by rfl) (by show (row w' w3.heap.size).size=33;rw[hS.1];exact vals_size _ _ _)).trans ?_
       show Result.ok (Next.value (.agg (row w' w3.heap.size))) w'=_
       rw[hS.1]
     try simp only[Act.put,List.setIfInBounds_toArray,List.set_cons_zero,List.set_cons_succ]
     (refine rg_y (i:=1) (some 13) (v:=?_) rfl rfl (by kernel_rfl) (by kernel_rfl) (by kernel_rfl) (fun _ _ _ h=>h) (by kernel_rfl) ?_ (by assumption) ?_;rotate_left 1;focus (intro w hSw;(try dsimp only at hSw);(first | (go_simp;done) | (go_simp;with_reducible rfl)));(try simp only[Act.put,List.setIfInBounds_toArray,List.set_cons_zero,List.set_cons_succ]))
     (refine rg_y (i:=2) (some 14) (v:=?_) rfl rfl (by kernel_rfl) (by kernel_rfl) (by kernel_rfl) (fun _ _ _ h=>h) (by kernel_rfl) ?_ (by assumption) ?_;rotate_left 1;focus (intro w hSw;(try dsimp only at hSw);(first | (go_simp;done) | (go_simp;with_reducible rfl)));(try simp only[Act.put,List.setIfInBounds_toArray,List.set_cons_zero,List.set_cons_succ]))
     (refine rg_y (i:=3) (some 15) (v:=?_) rfl rfl (by kernel_rfl) (by kernel_rfl) (by kernel_rfl) (fun _ _ _ h=>h) (by kernel_rfl) ?_ (by assumption) ?_;rotate_left 1;focus (intro w hSw;(try dsimp only at hSw);(first | (go_simp;done) | (go_simp;with_reducible rfl)));(try simp only[Act.put,List.setIfInBounds_toArray,List.set_cons_zero,List.set_cons_succ]))
     (refine rg_y (i:=4) (some 16) (v:=?_) rfl rfl (by kernel_rfl) (by kernel_rfl) (by kernel_rfl) (fun _ _ _ h=>h) (by kernel_rfl) ?_ (by assumption) ?_;rotate_left 1;focus (intro w hSw;(try dsimp only at hSw);(first | (go_simp;done) | (go_simp;with_reducible rfl)));(try simp only[Act.put,List.setIfInBounds_toArray,List.set_cons_zero,List.set_cons_succ]))
     (refine rg_y (i:=5) (some 17) (v:=?_) rfl rfl (by kernel_rfl) (by kernel_rfl) (by kernel_rfl) (fun _ _ _ h=>h) (by kernel_rfl) ?_ (by assumption) ?_;rotate_left 1;focus (intro w hSw;(try dsimp only at hSw);(first | (go_simp;done) | (go_simp;with_reducible rfl)));(try simp only[Act.put,List.setIfInBounds_toArray,List.set_cons_zero,List.set_cons_succ]))
     (refine rg_y (i:=6) (some 18) (v:=?_) rfl rfl (by kernel_rfl) (by kernel_rfl) (by kernel_rfl) (fun _ _ _ h=>h) (by kernel_rfl) ?_ (by assumption) ?_;rotate_left 1;focus (intro w hSw;(try dsimp only at hSw);(first | (go_simp;done) | (go_simp;with_reducible rfl)));(try simp only[Act.put,List.setIfInBounds_toArray,List.set_cons_zero,List.set_cons_succ]))
     (refine rg_y (i:=7) (some 19) (v:=?_) rfl rfl (by kernel_rfl) (by kernel_rfl) (by kernel_rfl) (fun _ _ _ h=>h) (by kernel_rfl) ?_ (by assumption) ?_;rotate_left 1;focus (intro w hSw;(try dsimp only at hSw);(first | (go_simp;done) | (go_simp;with_reducible rfl)));(try simp only[Act.put,List.setIfInBounds_toArray,List.set_cons_zero,List.set_cons_succ]))
     (refine rg_y (i:=8) (some 20) (v:=?_) rfl rfl (by kernel_rfl) (by kernel_rfl) (by kernel_rfl) (fun _ _ _ h=>h) (by kernel_rfl) ?_ (by assumption) ?_;rotate_left 1;focus (intro w hSw;(try dsimp only at hSw);(first | (go_simp;done) | (go_simp;with_reducible rfl)));(try simp only[Act.put,List.setIfInBounds_toArray,List.set_cons_zero,List.set_cons_succ]))
     (refine rg_y (i:=9) (some 21) (v:=?_) rfl rfl (by kernel_rfl) (by kernel_rfl) (by kernel_rfl) (fun _ _ _ h=>h) (by kernel_rfl) ?_ (by assumption) ?_;rotate_left 1;focus (intro w hSw;(try dsimp only at hSw);(first | (go_simp;done) | (go_simp;with_reducible rfl)));(try simp only[Act.put,List.setIfInBounds_toArray,List.set_cons_zero,List.set_cons_succ]))
     (refine rg_y (i:=10) (some 22) (v:=?_) rfl rfl (by kernel_rfl) (by kernel_rfl) (by kernel_rfl) (fun _ _ _ h=>h) (by kernel_rfl) ?_ (by assumption) ?_;rotate_left 1;focus (intro w hSw;(try dsimp only at hSw);(first | (go_simp;done) | (go_simp;with_reducible rfl)));(try simp only[Act.put,List.setIfInBounds_toArray,List.set_cons_zero,List.set_cons_succ]))
     (refine rg_y (i:=11) (some 23) (v:=?_) rfl rfl (by kernel_rfl) (by kernel_rfl) (by kernel_rfl) (fun _ _ _ h=>h) (by kernel_rfl) ?_ (by assumption) ?_;rotate_left 1;focus (intro w hSw;(try dsimp only at hSw);(first | (go_simp;done) | (go_simp;with_reducible rfl)));(try simp only[Act.put,List.setIfInBounds_toArray,List.set_cons_zero,List.set_cons_succ]))
     (refine rg_y (i:=12) (some 24) (v:=?_) rfl rfl (by kernel_rfl) (by kernel_rfl) (by kernel_rfl) (fun _ _ _ h=>h) (by kernel_rfl) ?_ (by assumption) ?_;rotate_left 1;focus (intro w hSw;(try dsimp only at hSw);(first | (go_simp;done) | (go_simp;with_reducible rfl)));(try simp only[Act.put,List.setIfInBounds_toArray,List.set_cons_zero,List.set_cons_succ]))
     (refine rg_y (i:=13) (some 25) (v:=?_) rfl rfl (by kernel_rfl) (by kernel_rfl) (by kernel_rfl) (fun _ _ _ h=>h) (by kernel_rfl) ?_ (by assumption) ?_;rotate_left 1;focus (intro w hSw;(try dsimp only at hSw);(first | (go_simp;done) | (go_simp;with_reducible rfl)));(try simp only[Act.put,List.setIfInBounds_toArray,List.set_cons_zero,List.set_cons_succ]))
     (refine rg_y (i:=14) (some 26) (v:=?_) rfl rfl (by kernel_rfl) (by kernel_rfl) (by kernel_rfl) (fun _ _ _ h=>h) (by kernel_rfl) ?_ (by assumption) ?_;rotate_left 1;focus (intro w hSw;(try dsimp only at hSw);(first | (go_simp;done) | (go_simp;with_reducible rfl)));(try simp only[Act.put,List.setIfInBounds_toArray,List.set_cons_zero,List.set_cons_succ]))
     (refine rg_y (i:=15) (some 27) (v:=?_) rfl rfl (by kernel_rfl) (by kernel_rfl) (by kernel_rfl) (fun _ _ _ h=>h) (by kernel_rfl) ?_ (by assumption) ?_;rotate_left 1;focus (intro w hSw;(try dsimp only at hSw);(first | (go_simp;done) | (go_simp;with_reducible rfl)));(try simp only[Act.put,List.setIfInBounds_toArray,List.set_cons_zero,List.set_cons_succ]))
     (refine rg_y (i:=16) (some 28) (v:=?_) rfl rfl (by kernel_rfl) (by kernel_rfl) (by kernel_rfl) (fun _ _ _ h=>h) (by kernel_rfl) ?_ (by assumption) ?_;rotate_left 1;focus (intro w hSw;(try dsimp only at hSw);(first | (go_simp;done) | (go_simp;with_reducible rfl)));(try simp only[Act.put,List.setIfInBounds_toArray,List.set_cons_zero,List.set_cons_succ]))
     (refine rg_y (i:=17) (some 29) (v:=?_) rfl rfl (by kernel_rfl) (by kernel_rfl) (by kernel_rfl) (fun _ _ _ h=>h) (by kernel_rfl) ?_ (by assumption) ?_;rotate_left 1;focus (intro w hSw;(try dsimp only at hSw);(first | (go_simp;done) | (go_simp;with_reducible rfl)));(try simp only[Act.put,List.setIfInBounds_toArray,List.set_cons_zero,List.set_cons_succ]))
     (refine rg_y (i:=18) (some 30) (v:=?_) rfl rfl (by kernel_rfl) (by kernel_rfl) (by kernel_rfl) (fun _ _ _ h=>h) (by kernel_rfl) ?_ (by assumption) ?_;rotate_left 1;focus (intro w hSw;(try dsimp only at hSw);(first | (go_simp;done) | (go_simp;with_reducible rfl)));(try simp only[Act.put,List.setIfInBounds_toArray,List.set_cons_zero,List.set_cons_succ]))
     (refine rg_y (i:=19) (some 31) (v:=?_) rfl rfl (by kernel_rfl) (by kernel_rfl) (by kernel_rfl) (fun _ _ _ h=>h) (by kernel_rfl) ?_ (by assumption) ?_;rotate_left 1;focus (intro w hSw;(try dsimp only at hSw);(first | (go_simp;done) | (go_simp;with_reducible rfl)));(try simp only[Act.put,List.setIfInBounds_toArray,List.set_cons_zero,List.set_cons_succ]))
     (refine rg_y (i:=20) (some 32) (v:=?_) rfl rfl (by kernel_rfl) (by kernel_rfl) (by kernel_rfl) (fun _ _ _ h=>h) (by kernel_rfl) ?_ (by assumption) ?_;rotate_left 1;focus (intro w hSw;(try dsimp only at hSw);(first | (go_simp;done) | (go_simp;with_reducible rfl)));(try simp only[Act.put,List.setIfInBounds_toArray,List.set_cons_zero,List.set_cons_succ]))
     (refine rg_y (i:=21) (some 33) (v:=?_) rfl rfl (by kernel_rfl) (by kernel_rfl) (by kernel_rfl) (fun _ _ _ h=>h) (by kernel_rfl) ?_ (by assumption) ?_;rotate_left 1;focus (intro w hSw;(try dsimp only at hSw);(first | (go_simp;done) | (go_simp;with_reducible rfl)));(try simp only[Act.put,List.setIfInBounds_toArray,List.set_cons_zero,List.set_cons_succ]))
     (refine rg_y (i:=22) (some 34) (v:=?_) rfl rfl (by kernel_rfl) (by kernel_rfl) (by kernel_rfl) (fun _ _ _ h=>h) (by kernel_rfl) ?_ (by assumption) ?_;rotate_left 1;focus (intro w hSw;(try dsimp only at hSw);(first | (go_simp;done) | (go_simp;with_reducible rfl)));(try simp only[Act.put,List.setIfInBounds_toArray,List.set_cons_zero,List.set_cons_succ]))
     (refine rg_y (i:=24) (some 36) (v:=?_) rfl rfl (by kernel_rfl) (by kernel_rfl) (by kernel_rfl) (fun _ _ _ h=>h) (by kernel_rfl) ?_ (by assumption) ?_;rotate_left 1;focus (intro w hSw;(try dsimp only at hSw);(first | (go_simp;done) | (go_simp;with_reducible rfl)));(try simp only[Act.put,List.setIfInBounds_toArray,List.set_cons_zero,List.set_cons_succ]))
     (refine rg_y (i:=25) (some 37) (v:=?_) rfl rfl (by kernel_rfl) (by kernel_rfl) (by kernel_rfl) (fun _ _ _ h=>h) (by kernel_rfl) ?_ (by assumption) ?_;rotate_left 1;focus (intro w hSw;(try dsimp only at hSw);(first | (go_simp;done) | (go_simp;with_reducible rfl)));(try simp only[Act.put,List.setIfInBounds_toArray,List.set_cons_zero,List.set_cons_succ]))
     (refine wpAnyH_ready (rs:=[23]) (by kernel_rfl) (by simp) ?_;refine AllReadyH.cons (o:=_) rfl (fun K hK=>?_) AllReadyH.nil)
     go_simp
     go_at_call 15
     refine (HK.out _).mono ?_
     rintro _ w5 ⟨rfl,rfl⟩
     have b5:=b2
     refine hK.out _ _ (hKS b5) (fun hHeld=>?_)
     (clear hK K;(try simp only[Act.put,List.setIfInBounds_toArray,List.set_cons_zero,List.set_cons_succ]))
     (refine rg_y (i:=26) (some 38) (v:=?_) rfl rfl (by kernel_rfl) (by kernel_rfl) (by kernel_rfl) (fun _ _ _ h=>h) (by kernel_rfl) ?_ (by assumption) ?_;rotate_left 1;focus (intro w hSw;(try dsimp only at hSw);(first | (go_simp;done) | (go_simp;with_reducible rfl)));(try simp only[Act.put,List.setIfInBounds_toArray,List.set_cons_zero,List.set_cons_succ]))
     (refine rg_y (i:=27) (some 39) (v:=?_) rfl rfl (by kernel_rfl) (by kernel_rfl) (by kernel_rfl) (fun _ _ _ h=>h) (by kernel_rfl) ?_ (by assumption) ?_;rotate_left 1;focus (intro w hSw;(try dsimp only at hSw);(first | (go_simp;done) | (go_simp;with_reducible rfl)));(try simp only[Act.put,List.setIfInBounds_toArray,List.set_cons_zero,List.set_cons_succ]))
     have hSn:row (W2.setRow (w.heap.size+1) (x.1.vals al gr)) w3.heap.size=x.1.vals al gr∧(W2.setRow (w.heap.size+1) (x.1.vals al gr)).cell? ⟨w3.heap.size,0,none⟩=some (.int .i64 x.1.kind)∧(W2.setRow (w.heap.size+1) (x.1.vals al gr)).cell? ⟨w3.heap.size,1,none⟩=some (.string x.1.name)∧(W2.setRow (w.heap.size+1) (x.1.vals al gr)).cell? ⟨w.heap.size,0,none⟩=some (.int .i64 k)∧(W2.setRow (w.heap.size+1) (x.1.vals al gr)).cell? ⟨w.heap.size,1,none⟩=some (.int .i64 id)∧(W2.setRow (w.heap.size+1) (x.1.vals al gr)).cell? ⟨w.heap.size,2,none⟩=some (.string key)∧Held (W2.setRow (w.heap.size+1) (x.1.vals al gr)) (w.heap.size+1) 33:=by
      obtain⟨a1,a2,a3,a4,a5,a6,a7⟩:=hHeld
      have ne1:w3.heap.size≠w.heap.size+1:=by omega
      have ne2:w.heap.size≠w.heap.size+1:=by omega
      exact⟨(row_set_ne _ _ _ _ ne1).trans a1,(World.cell?_of_block (a:=⟨w3.heap.size,0,none⟩) (setRow_block _ _ _ _ ne1)).trans a2,(World.cell?_of_block (a:=⟨w3.heap.size,1,none⟩) (setRow_block _ _ _ _ ne1)).trans a3,(World.cell?_of_block (a:=⟨w.heap.size,0,none⟩) (setRow_block _ _ _ _ ne2)).trans a4,(World.cell?_of_block (a:=⟨w.heap.size,1,none⟩) (setRow_block _ _ _ _ ne2)).trans a5,(World.cell?_of_block (a:=⟨w.heap.size,2,none⟩) (setRow_block _ _ _ _ ne2)).trans a6,a7.set _ (fun _=>vals_size _ _ _)⟩
     have hHW:=hHeld.2.2.2.2.2.2
     refine rg_t (i:=28) none (W2.setRow (w.heap.size+1) (x.1.vals al gr)) rfl rfl (by kernel_rfl) (by kernel_rfl) (stEntRow _ _ _ _ _ _ _ _ _ (by rfl) (by exact hHW) (by rfl) (vals_size _ _ _) hone) hSn ?_
     try simp only[Act.put,List.setIfInBounds_toArray,List.set_cons_zero,List.set_cons_succ]
     (refine rg_y (i:=29) (some 3) (v:=?_) rfl rfl (by kernel_rfl) (by kernel_rfl) (by kernel_rfl) (fun _ _ _ h=>h) (by kernel_rfl) ?_ (by assumption) ?_;rotate_left 1;focus (intro w hSw;(try dsimp only at hSw);(first | (go_simp;done) | (go_simp;with_reducible rfl)));(try simp only[Act.put,List.setIfInBounds_toArray,List.set_cons_zero,List.set_cons_succ]))
     refine wpAnyH_done (by kernel_rfl) ?_ _
     clear hHeld hSn hKS
     go_wp2_with fail
     refine bodyPost_ret (res_row_tmp (n:=32) rfl Tryz.underlying27 rfl (by kernel_rfl) _ _ (w.heap.size+1) rfl (size_put hHW (vals_size _ _ _))) rfl ?_
     have b4:Below w3.heap.size w3 W2:=(below_al' _ _).trans (b2.mono (Nat.le_succ _))
     exact PutR.put (x:=x) hHW (bt B3.out b4) (HI.out.below b4) (HGS.out.below b4) (fun q hq=>by have:=HF1.out q hq;simp at this;omega) (fun q hq=>by have:=HF2.out q hq;simp at this;omega) (Or.inr ⟨hP.symm,rfl⟩)
 · rw[hd] at hP
   dsimp only at hP
   clear hd hky
   refine rg_y (i:=0) (some 12) (v:=.agg (((En.zero,[],[]):Fu).1.vals al gr)) rfl rfl (by kernel_rfl) (by kernel_rfl) (by kernel_rfl) (fun _ _ _ h=>h) (by kernel_rfl) (fun w' hS=>?_) (by assumption) ?_
   · refine (ldEnt _ w' _ _ _ _ _ _ (by rfl) (by show (row w' w3.heap.size).size=33;rw[hS.1];exact vals_size _ _ _)).trans ?_
     show Result.ok (Next.value (.agg (row w' w3.heap.size))) w'=_
     rw[hS.1]
   try simp only[Act.put,List.setIfInBounds_toArray,List.set_cons_zero,List.set_cons_succ]
   (refine rg_y (i:=1) (some 13) (v:=?_) rfl rfl (by kernel_rfl) (by kernel_rfl) (by kernel_rfl) (fun _ _ _ h=>h) (by kernel_rfl) ?_ (by assumption) ?_;rotate_left 1;focus (intro w hSw;(try dsimp only at hSw);(first | (go_simp;done) | (go_simp;with_reducible rfl)));(try simp only[Act.put,List.setIfInBounds_toArray,List.set_cons_zero,List.set_cons_succ]))
   (refine rg_y (i:=2) (some 14) (v:=?_) rfl rfl (by kernel_rfl) (by kernel_rfl) (by kernel_rfl) (fun _ _ _ h=>h) (by kernel_rfl) ?_ (by assumption) ?_;rotate_left 1;focus (intro w hSw;(try dsimp only at hSw);(first | (go_simp;done) | (go_simp;with_reducible rfl)));(try simp only[Act.put,List.setIfInBounds_toArray,List.set_cons_zero,List.set_cons_succ]))
   (refine rg_y (i:=3) (some 15) (v:=?_) rfl rfl (by kernel_rfl) (by kernel_rfl) (by kernel_rfl) (fun _ _ _ h=>h) (by kernel_rfl) ?_ (by assumption) ?_;rotate_left 1;focus (intro w hSw;(try dsimp only at hSw);(first | (go_simp;done) | (go_simp;with_reducible rfl)));(try simp only[Act.put,List.setIfInBounds_toArray,List.set_cons_zero,List.set_cons_succ]))
   (refine rg_y (i:=4) (some 16) (v:=?_) rfl rfl (by kernel_rfl) (by kernel_rfl) (by kernel_rfl) (fun _ _ _ h=>h) (by kernel_rfl) ?_ (by assumption) ?_;rotate_left 1;focus (intro w hSw;(try dsimp only at hSw);(first | (go_simp;done) | (go_simp;with_reducible rfl)));(try simp only[Act.put,List.setIfInBounds_toArray,List.set_cons_zero,List.set_cons_succ]))
   (refine rg_y (i:=5) (some 17) (v:=?_) rfl rfl (by kernel_rfl) (by kernel_rfl) (by kernel_rfl) (fun _ _ _ h=>h) (by kernel_rfl) ?_ (by assumption) ?_;rotate_left 1;focus (intro w hSw;(try dsimp only at hSw);(first | (go_simp;done) | (go_simp;with_reducible rfl)));(try simp only[Act.put,List.setIfInBounds_toArray,List.set_cons_zero,List.set_cons_succ]))
   (refine rg_y (i:=6) (some 18) (v:=?_) rfl rfl (by kernel_rfl) (by kernel_rfl) (by kernel_rfl) (fun _ _ _ h=>h) (by kernel_rfl) ?_ (by assumption) ?_;rotate_left 1;focus (intro w hSw;(try dsimp only at hSw);(first | (go_simp;done) | (go_simp;with_reducible rfl)));(try simp only[Act.put,List.setIfInBounds_toArray,List.set_cons_zero,List.set_cons_succ]))
   (refine rg_y (i:=7) (some 19) (v:=?_) rfl rfl (by kernel_rfl) (by kernel_rfl) (by kernel_rfl) (fun _ _ _ h=>h) (by kernel_rfl) ?_ (by assumption) ?_;rotate_left 1;focus (intro w hSw;(try dsimp only at hSw);(first | (go_simp;done) | (go_simp;with_reducible rfl)));(try simp only[Act.put,List.setIfInBounds_toArray,List.set_cons_zero,List.set_cons_succ]))
   (refine rg_y (i:=8) (some 20) (v:=?_) rfl rfl (by kernel_rfl) (by kernel_rfl) (by kernel_rfl) (fun _ _ _ h=>h) (by kernel_rfl) ?_ (by assumption) ?_;rotate_left 1;focus (intro w hSw;(try dsimp only at hSw);(first | (go_simp;done) | (go_simp;with_reducible rfl)));(try simp only[Act.put,List.setIfInBounds_toArray,List.set_cons_zero,List.set_cons_succ]))
   (refine rg_y (i:=9) (some 21) (v:=?_) rfl rfl (by kernel_rfl) (by kernel_rfl) (by kernel_rfl) (fun _ _ _ h=>h) (by kernel_rfl) ?_ (by assumption) ?_;rotate_left 1;focus (intro w hSw;(try dsimp only at hSw);(first | (go_simp;done) | (go_simp;with_reducible rfl)));(try simp only[Act.put,List.setIfInBounds_toArray,List.set_cons_zero,List.set_cons_succ]))
   (refine rg_y (i:=10) (some 22) (v:=?_) rfl rfl (by kernel_rfl) (by kernel_rfl) (by kernel_rfl) (fun _ _ _ h=>h) (by kernel_rfl) ?_ (by assumption) ?_;rotate_left 1;focus (intro w hSw;(try dsimp only at hSw);(first | (go_simp;done) | (go_simp;with_reducible rfl)));(try simp only[Act.put,List.setIfInBounds_toArray,List.set_cons_zero,List.set_cons_succ]))
   (refine rg_y (i:=11) (some 23) (v:=?_) rfl rfl (by kernel_rfl) (by kernel_rfl) (by kernel_rfl) (fun _ _ _ h=>h) (by kernel_rfl) ?_ (by assumption) ?_;rotate_left 1;focus (intro w hSw;(try dsimp only at hSw);(first | (go_simp;done) | (go_simp;with_reducible rfl)));(try simp only[Act.put,List.setIfInBounds_toArray,List.set_cons_zero,List.set_cons_succ]))
   (refine rg_y (i:=12) (some 24) (v:=?_) rfl rfl (by kernel_rfl) (by kernel_rfl) (by kernel_rfl) (fun _ _ _ h=>h) (by kernel_rfl) ?_ (by assumption) ?_;rotate_left 1;focus (intro w hSw;(try dsimp only at hSw);(first | (go_simp;done) | (go_simp;with_reducible rfl)));(try simp only[Act.put,List.setIfInBounds_toArray,List.set_cons_zero,List.set_cons_succ]))
   (refine rg_y (i:=13) (some 25) (v:=?_) rfl rfl (by kernel_rfl) (by kernel_rfl) (by kernel_rfl) (fun _ _ _ h=>h) (by kernel_rfl) ?_ (by assumption) ?_;rotate_left 1;focus (intro w hSw;(try dsimp only at hSw);(first | (go_simp;done) | (go_simp;with_reducible rfl)));(try simp only[Act.put,List.setIfInBounds_toArray,List.set_cons_zero,List.set_cons_succ]))
   (refine rg_y (i:=14) (some 26) (v:=?_) rfl rfl (by kernel_rfl) (by kernel_rfl) (by kernel_rfl) (fun _ _ _ h=>h) (by kernel_rfl) ?_ (by assumption) ?_;rotate_left 1;focus (intro w hSw;(try dsimp only at hSw);(first | (go_simp;done) | (go_simp;with_reducible rfl)));(try simp only[Act.put,List.setIfInBounds_toArray,List.set_cons_zero,List.set_cons_succ]))
   (refine rg_y (i:=15) (some 27) (v:=?_) rfl rfl (by kernel_rfl) (by kernel_rfl) (by kernel_rfl) (fun _ _ _ h=>h) (by kernel_rfl) ?_ (by assumption) ?_;rotate_left 1;focus (intro w hSw;(try dsimp only at hSw);(first | (go_simp;done) | (go_simp;with_reducible rfl)));(try simp only[Act.put,List.setIfInBounds_toArray,List.set_cons_zero,List.set_cons_succ]))
   (refine rg_y (i:=16) (some 28) (v:=?_) rfl rfl (by kernel_rfl) (by kernel_rfl) (by kernel_rfl) (fun _ _ _ h=>h) (by kernel_rfl) ?_ (by assumption) ?_;rotate_left 1;focus (intro w hSw;(try dsimp only at hSw);(first | (go_simp;done) | (go_simp;with_reducible rfl)));(try simp only[Act.put,List.setIfInBounds_toArray,List.set_cons_zero,List.set_cons_succ]))
   (refine rg_y (i:=17) (some 29) (v:=?_) rfl rfl (by kernel_rfl) (by kernel_rfl) (by kernel_rfl) (fun _ _ _ h=>h) (by kernel_rfl) ?_ (by assumption) ?_;rotate_left 1;focus (intro w hSw;(try dsimp only at hSw);(first | (go_simp;done) | (go_simp;with_reducible rfl)));(try simp only[Act.put,List.setIfInBounds_toArray,List.set_cons_zero,List.set_cons_succ]))
   (refine rg_y (i:=18) (some 30) (v:=?_) rfl rfl (by kernel_rfl) (by kernel_rfl) (by kernel_rfl) (fun _ _ _ h=>h) (by kernel_rfl) ?_ (by assumption) ?_;rotate_left 1;focus (intro w hSw;(try dsimp only at hSw);(first | (go_simp;done) | (go_simp;with_reducible rfl)));(try simp only[Act.put,List.setIfInBounds_toArray,List.set_cons_zero,List.set_cons_succ]))
   (refine rg_s (i:=19) (some 31) rfl rfl (by kernel_rfl) (by kernel_rfl) (by kernel_rfl) (fun _ _ _ h=>h) (by kernel_rfl) (by assumption) ?_;(try simp only[Act.put,List.setIfInBounds_toArray,List.set_cons_zero,List.set_cons_succ]))
   (refine rg_s (i:=20) (some 32) rfl rfl (by kernel_rfl) (by kernel_rfl) (by kernel_rfl) (fun _ _ _ h=>h) (by kernel_rfl) (by assumption) ?_;(try simp only[Act.put,List.setIfInBounds_toArray,List.set_cons_zero,List.set_cons_succ]))
   (refine rg_s (i:=21) (some 33) rfl rfl (by kernel_rfl) (by kernel_rfl) (by kernel_rfl) (fun _ _ _ h=>h) (by kernel_rfl) (by assumption) ?_;(try simp only[Act.put,List.setIfInBounds_toArray,List.set_cons_zero,List.set_cons_succ]))
   (refine rg_s (i:=22) (some 34) rfl rfl (by kernel_rfl) (by kernel_rfl) (by kernel_rfl) (fun _ _ _ h=>h) (by kernel_rfl) (by assumption) ?_;(try simp only[Act.put,List.setIfInBounds_toArray,List.set_cons_zero,List.set_cons_succ]))
   (refine rg_s (i:=23) (some 35) rfl rfl (by kernel_rfl) (by kernel_rfl) (by kernel_rfl) (fun _ _ _ h=>h) (by kernel_rfl) (by assumption) ?_;(try simp only[Act.put,List.setIfInBounds_toArray,List.set_cons_zero,List.set_cons_succ]))
   (refine rg_s (i:=24) (some 36) rfl rfl (by kernel_rfl) (by kernel_rfl) (by kernel_rfl) (fun _ _ _ h=>h) (by kernel_rfl) (by assumption) ?_;(try simp only[Act.put,List.setIfInBounds_toArray,List.set_cons_zero,List.set_cons_succ]))
   (refine rg_s (i:=25) (some 37) rfl rfl (by kernel_rfl) (by kernel_rfl) (by kernel_rfl) (fun _ _ _ h=>h) (by kernel_rfl) (by assumption) ?_;(try simp only[Act.put,List.setIfInBounds_toArray,List.set_cons_zero,List.set_cons_succ]))
   (refine rg_s (i:=26) (some 38) rfl rfl (by kernel_rfl) (by kernel_rfl) (by kernel_rfl) (fun _ _ _ h=>h) (by kernel_rfl) (by assumption) ?_;(try simp only[Act.put,List.setIfInBounds_toArray,List.set_cons_zero,List.set_cons_succ]))
   (refine rg_y (i:=27) (some 39) (v:=?_) rfl rfl (by kernel_rfl) (by kernel_rfl) (by kernel_rfl) (fun _ _ _ h=>h) (by kernel_rfl) ?_ (by assumption) ?_;rotate_left 1;focus (intro w hSw;(try dsimp only at hSw);(first | (go_simp;done) | (go_simp;with_reducible rfl)));(try simp only[Act.put,List.setIfInBounds_toArray,List.set_cons_zero,List.set_cons_succ]))
   have hSn:row (W2.setRow (w.heap.size+1) (((En.zero,[],[]):Fu).1.vals al gr)) w3.heap.size=((En.zero,[],[]):Fu).1.vals al gr∧(W2.setRow (w.heap.size+1) (((En.zero,[],[]):Fu).1.vals al gr)).cell? ⟨w3.heap.size,0,none⟩=some (.int .i64 ((En.zero,[],[]):Fu).1.kind)∧(W2.setRow (w.heap.size+1) (((En.zero,[],[]):Fu).1.vals al gr)).cell? ⟨w3.heap.size,1,none⟩=some (.string ((En.zero,[],[]):Fu).1.name)∧(W2.setRow (w.heap.size+1) (((En.zero,[],[]):Fu).1.vals al gr)).cell? ⟨w.heap.size,0,none⟩=some (.int .i64 k)∧(W2.setRow (w.heap.size+1) (((En.zero,[],[]):Fu).1.vals al gr)).cell? ⟨w.heap.size,1,none⟩=some (.int .i64 id)∧(W2.setRow (w.heap.size+1) (((En.zero,[],[]):Fu).1.vals al gr)).cell? ⟨w.heap.size,2,none⟩=some (.string key)∧Held (W2.setRow (w.heap.size+1) (((En.zero,[],[]):Fu).1.vals al gr)) (w.heap.size+1) 33:=by
    obtain⟨a1,a2,a3,a4,a5,a6,a7⟩:=hHeld
    have ne1:w3.heap.size≠w.heap.size+1:=by omega
    have ne2:w.heap.size≠w.heap.size+1:=by omega
    exact⟨(row_set_ne _ _ _ _ ne1).trans a1,(World.cell?_of_block (a:=⟨w3.heap.size,0,none⟩) (setRow_block _ _ _ _ ne1)).trans a2,(World.cell?_of_block (a:=⟨w3.heap.size,1,none⟩) (setRow_block _ _ _ _ ne1)).trans a3,(World.cell?_of_block (a:=⟨w.heap.size,0,none⟩) (setRow_block _ _ _ _ ne2)).trans a4,(World.cell?_of_block (a:=⟨w.heap.size,1,none⟩) (setRow_block _ _ _ _ ne2)).trans a5,(World.cell?_of_block (a:=⟨w.heap.size,2,none⟩) (setRow_block _ _ _ _ ne2)).trans a6,a7.set _ (fun _=>vals_size _ _ _)⟩
   have hHW:=hHeld.2.2.2.2.2.2
   refine rg_t (i:=28) none (W2.setRow (w.heap.size+1) (((En.zero,[],[]):Fu).1.vals al gr)) rfl rfl (by kernel_rfl) (by kernel_rfl) (stEntRow _ _ _ _ _ _ _ _ _ (by rfl) (by exact hHW) (by rfl) (vals_size _ _ _) hone) hSn ?_
   try simp only[Act.put,List.setIfInBounds_toArray,List.set_cons_zero,List.set_cons_succ]
   (refine rg_y (i:=29) (some 3) (v:=?_) rfl rfl (by kernel_rfl) (by kernel_rfl) (by kernel_rfl) (fun _ _ _ h=>h) (by kernel_rfl) ?_ (by assumption) ?_;rotate_left 1;focus (intro w hSw;(try dsimp only at hSw);(first | (go_simp;done) | (go_simp;with_reducible rfl)));(try simp only[Act.put,List.setIfInBounds_toArray,List.set_cons_zero,List.set_cons_succ]))
   refine wpAnyH_done (by kernel_rfl) ?_ _
   clear hHeld hSn hKS
   go_wp2_with fail
   refine bodyPost_ret (res_row_tmp (n:=32) rfl Tryz.underlying27 rfl (by kernel_rfl) _ _ (w.heap.size+1) rfl (size_put hHW (vals_size _ _ _))) rfl ?_
   have b4:Below w3.heap.size w3 W2:=(below_al' _ _).trans (b2.mono (Nat.le_succ _))
   exact PutR.put (x:=(En.zero,[],[])) hHW (bt B3.out b4) (HI.out.below b4) (HGS.out.below b4) (fun q hq=>by have:=HF1.out q hq;simp at this;omega) (fun q hq=>by have:=HF2.out q hq;simp at this;omega) (Or.inr ⟨hP.symm,rfl⟩)
end Go.Proofs.YtdfdjfnfmibpjaaGreatDoor
end
