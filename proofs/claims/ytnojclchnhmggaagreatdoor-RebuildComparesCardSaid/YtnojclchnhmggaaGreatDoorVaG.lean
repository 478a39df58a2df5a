/- Contracts of package entry: Valid at an alias, at a catalog's entry. -/
import Derived.Test.YtnojclchnhmggaaGreatDoorVaA
import Derived.Test.YtnojclchnhmggaaGreatDoorRdA
import Derived.Test.YtnojclchnhmggaaGreatDoorEn
import Derived.Test.YtnojclchnhmggaaGreatDoorDsW
import Derived.Test.YtnojclchnhmggaaGreatDoorBoA
import Derived.Test.YtnojclchnhmggaaGreatDoorFoC
import Derived.Test.YtnojclchnhmggaaGreatDoorDsA
import Derived.Shelf.Abstract
section
namespace Go.Proofs.YtnojclchnhmggaaGreatDoor
open Go.RowKit
set_option maxHeartbeats 800000
set_option maxRecDepth 4000
attribute [local go_sem] vals_0 vals_1 vals_25 vals_26 vals_27 vals_28 vals_29 vals_30 vals_31
namespace Vp
def nameA (s:List UInt8):Bool:=Ds.name s&&!Ds.gen s
def ali (e:En):Bool:=Ds.name (Ds.bl e.target)&&!(e.target.toList==e.name.toList)
def nameC (s:List UInt8):Bool:=Ds.name s&&decide ((Ds.pieces s).length<=2)
def cat (e:En):Bool:=rng 1 15 [e.cat]
end Vp
theorem va_nameA (s:ByteArray) (w:World) (hs:s.size<=1000) (hm:MaxL w) :
  Calls Tryz.prog 136 #[.string s] w fun r w'=>r=.returned (.bool (Vp.nameA (Ds.bl s)))∧Below w.heap.size w w':=by
 have h1:=fun W (h:MaxL W)=>ds_split s W hs h
 have h2:=fun W (h:MaxL W)=>ds_valid s W h
 unfold Vp.nameA
 generalize Ds.gen (Ds.bl s)=y at h1 ⊢
 generalize Ds.name (Ds.bl s)=x at h2 ⊢
 have HS:=Lib.hid h1
 have HV:=Lib.hid h2
 clear h1 h2
 cases x
 all_goals
  go_enter Tryz.func136,Tryz.ntmps136
  go_wp2_with (first | (go_at_call 125;(with_reducible refine (HS.out _ hm).mono ?_);rintro _ w1 ⟨rfl,B⟩) | (go_at_call 79;(with_reducible refine (HV.out _ (hm.below B)).mono ?_);rintro _ w2 ⟨rfl,hb⟩;have B:=bt B hb;clear hb))
  go_ret
  exact⟨rfl,B⟩
theorem va_alias (e:En) (al gr:Value) (w:World) (hm:MaxL w) :
  Calls Tryz.prog 138 #[.agg (e.vals al gr)] w fun r w'=>r=.returned (.bool (Vp.ali e))∧Below w.heap.size w w':=by
 have h2:=fun W (h:MaxL W)=>ds_valid e.target W h
 unfold Vp.ali
 generalize Ds.name (Ds.bl e.target)=x at h2 ⊢
 have q:(e.target.toList != e.name.toList)=!(e.target.toList==e.name.toList):=rfl
 have HV:=Lib.hid h2
 clear h2
 cases x
 · clear q
   go_enter Tryz.func138,Tryz.ntmps138
   go_wp2_with (go_at_call 79;(with_reducible refine (HV.out _ (hm.below (by exact belA))).mono ?_);rintro _ w2 ⟨rfl,hb⟩;have B:=((Below.refl w.heap.size w).alloc (Nat.le_refl _) _).trans (hb.mono (by simp));clear hb)
   go_ret
   exact⟨rfl,B⟩
 · rw[Bool.true_and]
   cases hc:(e.target.toList==e.name.toList)
   all_goals
    rw[hc] at q
    go_enter Tryz.func138,Tryz.ntmps138
    go_wp2_with (go_at_call 79;(with_reducible refine (HV.out _ (hm.below (by exact belA))).mono ?_);rintro _ w2 ⟨rfl,hb⟩;have R:=row_below hb (row_new w _ _ _) (by simp [vals_size]);have c29:=cell_row R 29 _ (vals_29 e al gr);have c1:=cell_row R 1 _ (vals_1 e al gr);have B:=((Below.refl w.heap.size w).alloc (Nat.le_refl _) _).trans (hb.mono (by simp));clear hb)
    go_ret
    exact⟨rfl,B⟩
theorem va_nameC (s:ByteArray) (w:World) (hm:MaxL w) :
  Calls Tryz.prog 139 #[.string s] w fun r w'=>r=.returned (.bool (Vp.nameC (Ds.bl s)))∧Below w.heap.size w w':=by
 have h2:=fun W (h:MaxL W)=>ds_valid s W h
 have hc:∀ W,Calls Tryz.prog 140 #[.string s,.string ⟨#[46]⟩] W fun e w'=>e=.returned (.int .i64 (Lib.countByte s.data.toList 46))∧w'=W:=fun W=>Tryz.strings_Count_one s 46 W
 have hp:decide ((Ds.pieces (Ds.bl s)).length<=2)=decide (Lib.countByte s.data.toList 46<2):=by
  rw[Ds.pieces_len,Bool.eq_iff_iff,decide_eq_true_eq,decide_eq_true_eq]
  unfold Lib.countByte Ds.bl
  omega
 unfold Vp.nameC
 rw[hp]
 generalize Ds.name (Ds.bl s)=x at h2 ⊢
 generalize Lib.countByte s.data.toList 46=k at hc ⊢
 have HV:=Lib.hid h2
 have HC:=Lib.hid hc
 clear h2 hc hp
 cases x
 · go_enter Tryz.func139,Tryz.ntmps139
   go_wp2_with (go_at_call 79;(with_reducible refine (HV.out _ hm).mono ?_);rintro _ w2 ⟨rfl,B⟩)
   go_ret
   exact⟨rfl,B⟩
 · go_enter Tryz.func139,Tryz.ntmps139
   go_wp2_with (first | (go_at_call 79;(with_reducible refine (HV.out _ hm).mono ?_);rintro _ w2 ⟨rfl,B⟩) | (go_at_call 140;(with_reducible refine (HC.out _).mono ?_);rintro _ w3 ⟨rfl,rfl⟩))
   go_ret
   exact⟨ret_bool (by rw[Bool.true_and,Bool.eq_iff_iff,decide_eq_true_eq,decide_eq_true_eq];omega),B⟩
theorem va_cat (e:En) (al gr:Value) (w:World) :
  Calls Tryz.prog 143 #[.agg (e.vals al gr)] w fun r w'=>r=.returned (.bool (Vp.cat e))∧Below w.heap.size w w':=by
 have h1:=fun W b h=>va_within1 1 15 e.cat b W h
 unfold Vp.cat
 generalize Vp.rng 1 15 [e.cat]=x at h1 ⊢
 go_enter Tryz.func143,Tryz.ntmps143
 go_wp2_with ((with_reducible refine (h1 _ _ (by simp [go_sem])).mono ?_);rintro _ w' ⟨rfl,rfl⟩)
 go_ret
 exact⟨rfl,by exact belA⟩
end Go.Proofs.YtnojclchnhmggaaGreatDoor
end
namespace Go.Proofs.YtnojclchnhmggaaGreatDoor
section
open Go.RowKit
set_option maxHeartbeats 800000
set_option maxRecDepth 4000
theorem ent_isgroup:EntF 128:=enters_of Tryz.func128 (by kernel_rfl) rfl
theorem ent_f1:EntF 129:=enters_of Tryz.func129 (by kernel_rfl) rfl
theorem ent_f2:EntF 133:=enters_of Tryz.func133 (by kernel_rfl) rfl
def bodyG (e:En):List UInt8:=(encs [e.lim.toNat,e.last.toNat]++[tb e.em])++(Wi.enc e.owner.size++Ds.bl e.owner)
def onlyG (e:En):En:={ En.zero with kind:=e.kind,name:=e.name,lim:=e.lim,last:=e.last,em:=e.em,owner:=e.owner }
theorem word_len (s:List UInt8) (h:Vp.word s=true):s.length<=31:=by
 unfold Vp.word Ds.name at h
 simp only[Bool.and_eq_true,decide_eq_true_eq] at h
 omega
theorem own_len (s:List UInt8) (h:Vp.own s=true):s.length<=31:=by
 unfold Vp.own at h
 rw[Bool.or_eq_true] at h
 rcases h with h | h
 · rw[List.isEmpty_iff] at h;subst h;simp
 · exact word_len s h
theorem rng1 (lo hi n:Int) (h:Vp.rng lo hi [n]=true):lo<=n∧n<=hi:=by
 simpa [Vp.rng] using h
theorem clip_id (n:Nat) (h:n<=1099511627776):clip n=n:=by unfold clip;rw[if_neg (by omega)]
theorem rd_bodyG (e:En) (h:Vp.grp e=true):rdGroup ({ En.zero with kind:=e.kind,name:=e.name }:En) (bodyG e,0)=(onlyG e,([],0)):=by
 unfold Vp.grp at h
 simp only[Bool.and_eq_true] at h
 obtain⟨⟨h1,h2⟩,h3⟩:=h
 have r1:=rng1 _ _ _ h1
 have r2:=rng1 _ _ _ h2
 have r3:=own_len _ h3
 have e1:bodyG e=Wi.enc e.lim.toNat++(Wi.enc e.last.toNat++(tb e.em::(Wi.enc (Ds.bl e.owner).length++(Ds.bl e.owner++[])))):=by
  unfold bodyG encs encs encs;rw[Ds.bl_length];simp
 unfold rdGroup onlyG
 rw[e1]
 simp only
 rw[Rd.num_enc _ _ (by omega)]
 simp only
 rw[Rd.num_enc _ _ (by omega)]
 simp only
 rw[show tb e.em=(if e.em then 1 else 0) from rfl,Rd.boo_tb]
 simp only
 rw[Rd.txt_enc 200 _ _ (by omega) (by omega)]
 simp only
 rw[clip_id _ (by omega),clip_id _ (by omega),Ds.mk_bl,Int.toNat_of_nonneg (by omega),Int.toNat_of_nonneg (by omega)]
theorem wr_group (e:En) (al gr:Value) (w:World) (h:Vp.grp e=true):Writes w 129 (e.vals al gr) (bodyG e):=by
 unfold Vp.grp at h
 simp only[Bool.and_eq_true] at h
 obtain⟨⟨h1,h2⟩,h3⟩:=h
 have r1:=rng1 _ _ _ h1
 have r2:=rng1 _ _ _ h2
 have r3:=own_len _ h3
 rw[Ds.bl_length] at r3
 intro W c g _ _ _ hW
 have:=fw_group c g [] e al gr e.lim.toNat e.last.toNat W hW (by omega) (by omega) (by omega) (by omega) (by omega) (by simp)
 rw[List.nil_append] at this
 exact this
theorem re_group (e:En) (w:World) (h:Vp.grp e=true):Reads w 129 (bodyG e) (zcells e.kind e.name) ([],0) (fun _ _ cs=>cs=(onlyG e).vals (.slice none 0 0) (.slice none 0 0)):=by
 have hl:(bodyG e).length<=1000:=by
  unfold Vp.grp at h
  simp only[Bool.and_eq_true] at h
  obtain⟨⟨h1,h2⟩,h3⟩:=h
  have r1:=rng1 _ _ _ h1
  have r2:=rng1 _ _ _ h2
  have r3:=own_len _ h3
  rw[Ds.bl_length] at r3
  have b1:=encs2_len e.lim.toNat e.last.toNat (by omega) (by omega)
  have b2:=enc_le10 e.owner.size (by omega)
  unfold bodyG
  simp only[List.length_append,List.length_singleton,Ds.bl_length]
  omega
 intro W c rb g _ _ _ _ hR
 refine (fr_group c rb g (bodyG e,0) _ _ _ W hR hl).mono ?_
 rintro r w' ⟨rfl,hR',hG⟩
 rw[rd_bodyG e h] at hR'
 exact⟨rfl,hG,_,hR',vals_size _ _ _,vals_one _ _ _ rfl rfl,rfl⟩
def okG (e:En) (l2:List Int) (g2:List Gr):Bool:=Ds.group (Ds.bl e.name)&&Vp.grp e&&sameE (onlyG e) e [] l2 [] g2
theorem va_kind1 (e:En) (al gr:Value) (l2:List Int) (g2:List Gr) (w:World) (hk:e.kind=1) (hm:MaxL w) (h1:IS w al l2) (h2:GS w gr g2) :
  Calls Tryz.prog 44 #[.agg (e.vals al gr)] w fun r w'=>r=.returned (.bool (okG e l2 g2))∧Below w.heap.size w w':=by
 have hf:Instr.findNow (.int .i64) (.int .i64 e.kind) fe5.toList 0=some (some (1,.agg (formV (71:Nat) 128 129 133))):=by rw[hk];rfl
 have hn:=fun W (b:Below w.heap.size w W)=>ds_group e.name W (hm.below b)
 have hv:=fun W (b:Below w.heap.size w W)=>va_group e al gr W (hm.below b)
 unfold okG
 cases hx:Ds.group (Ds.bl e.name)
 · rw[hx] at hn
   exact va_name 71 _ _ _ 1 e al gr w ent_isgroup hf hn
 · rw[hx] at hn
   cases hy:Vp.grp e
   · rw[hy] at hv
     exact va_fields 71 _ _ _ 1 e al gr w ent_isgroup ent_f2 hf hn hv
   · rw[hy] at hv
     refine va_bare 71 _ _ _ 1 e al gr (bodyG e) ([],0) _ _ w ent_isgroup ent_f2 ent_f1 hf hn hv (fun W _=>wr_group e al gr W hy) (fun W _=>re_group e W hy) (fun _ _ _ _ h _ _=>h) rfl ?_
     rintro W b cs' hb rfl
     exact en_same (onlyG e) e _ _ al gr [] l2 [] g2 W (IS.nil W) (h1.below hb) (GS.nil W) (h2.below hb)
end
section
open Go.RowKit
set_option maxHeartbeats 800000
set_option maxRecDepth 4000
theorem ent_f3:EntF 136:=enters_of Tryz.func136 (by kernel_rfl) rfl
theorem ent_f4:EntF 137:=enters_of Tryz.func137 (by kernel_rfl) rfl
theorem ent_f5:EntF 138:=enters_of Tryz.func138 (by kernel_rfl) rfl
theorem ent_f6:EntF 139:=enters_of Tryz.func139 (by kernel_rfl) rfl
theorem ent_f7:EntF 141:=enters_of Tryz.func141 (by kernel_rfl) rfl
theorem ent_f8:EntF 143:=enters_of Tryz.func143 (by kernel_rfl) rfl
def bodyA (e:En):List UInt8:=Wi.enc e.target.size++Ds.bl e.target
def bodyC (e:En):List UInt8:=Wi.enc e.cat.toNat
theorem name_len (s:List UInt8) (h:Ds.name s=true):s.length<=31:=by
 unfold Ds.name at h
 simp only[Bool.and_eq_true,decide_eq_true_eq] at h
 omega
theorem ali_size (e:En) (h:Vp.ali e=true):e.target.size<=31:=by
 unfold Vp.ali at h
 rw[Bool.and_eq_true] at h
 have:=name_len _ h.1
 rwa [Ds.bl_length] at this
theorem rd_bodyA (e:En) (r:List UInt8) (h:e.target.size<=200):rdAlias ({ En.zero with kind:=e.kind,name:=e.name }:En) (bodyA e++r,0)=(onlyA e,(r,0)):=by
 have e1:bodyA e++r=Wi.enc (Ds.bl e.target).length++(Ds.bl e.target++r):=by
  unfold bodyA;rw[Ds.bl_length,List.append_assoc]
 unfold rdAlias onlyA
 rw[e1,Rd.txt_enc 200 _ _ (by rw[Ds.bl_length];omega) (by rw[Ds.bl_length];omega)]
 simp only
 rw[Ds.mk_bl]
theorem wr_alias (e:En) (al gr:Value) (w:World) (h:Vp.ali e=true):Writes w 137 (e.vals al gr) (bodyA e):=by
 have hz:=ali_size e h
 intro W c g _ _ _ hW
 have:=fw_alias c g [] e al gr W hW (by omega) (by simp)
 rw[List.nil_append] at this
 exact this
theorem re_alias (e:En) (w:World) (h:Vp.ali e=true):Reads w 137 (bodyA e) (zcells e.kind e.name) ([],0) (fun _ _ cs=>cs=(onlyA e).vals (.slice none 0 0) (.slice none 0 0)):=by
 have hz:=ali_size e h
 have hl:(bodyA e).length<=1000:=by
  have b2:=enc_le10 e.target.size (by omega)
  unfold bodyA
  simp only[List.length_append,Ds.bl_length]
  omega
 intro W c rb g _ _ _ _ hR
 refine (fr_alias c rb g (bodyA e,0) _ _ _ W hR hl).mono ?_
 rintro r w' ⟨rfl,hR',hG⟩
 have hb:=rd_bodyA e [] (by omega)
 rw[List.append_nil] at hb
 rw[hb] at hR'
 exact⟨rfl,hG,_,hR',vals_size _ _ _,vals_one _ _ _ rfl rfl,rfl⟩
def okA (e:En) (l2:List Int) (g2:List Gr):Bool:=Vp.nameA (Ds.bl e.name)&&Vp.ali e&&sameE (onlyA e) e [] l2 [] g2
theorem va_kind2 (e:En) (al gr:Value) (l2:List Int) (g2:List Gr) (w:World) (hk:e.kind=2) (hm:MaxL w) (hsz:e.name.size<=1000) (h1:IS w al l2) (h2:GS w gr g2) :
  Calls Tryz.prog 44 #[.agg (e.vals al gr)] w fun r w'=>r=.returned (.bool (okA e l2 g2))∧Below w.heap.size w w':=by
 have hf:Instr.findNow (.int .i64) (.int .i64 e.kind) fe5.toList 0=some (some (2,.agg (formV (65:Nat) 136 137 138))):=by rw[hk];rfl
 have hn:=fun W (b:Below w.heap.size w W)=>va_nameA e.name W hsz (hm.below b)
 have hv:=fun W (b:Below w.heap.size w W)=>va_alias e al gr W (hm.below b)
 unfold okA
 cases hx:Vp.nameA (Ds.bl e.name)
 · rw[hx] at hn
   exact va_name 65 _ _ _ 2 e al gr w ent_f3 hf hn
 · rw[hx] at hn
   cases hy:Vp.ali e
   · rw[hy] at hv
     exact va_fields 65 _ _ _ 2 e al gr w ent_f3 ent_f5 hf hn hv
   · rw[hy] at hv
     refine va_bare 65 _ _ _ 2 e al gr (bodyA e) ([],0) _ _ w ent_f3 ent_f5 ent_f4 hf hn hv (fun W _=>wr_alias e al gr W hy) (fun W _=>re_alias e W hy) (fun _ _ _ _ h _ _=>h) rfl ?_
     rintro W b cs' hb rfl
     exact en_same (onlyA e) e _ _ al gr [] l2 [] g2 W (IS.nil W) (h1.below hb) (GS.nil W) (h2.below hb)
theorem rd_bodyC (e:En) (r:List UInt8) (h:Vp.cat e=true):rdCat ({ En.zero with kind:=e.kind,name:=e.name }:En) (bodyC e++r,0)=(onlyC e,(r,0)):=by
 have r1:=rng1 _ _ _ h
 unfold rdCat onlyC bodyC
 rw[Rd.num_enc _ _ (by omega)]
 simp only
 rw[clip_id _ (by omega),Int.toNat_of_nonneg (by omega)]
theorem wr_cat (e:En) (al gr:Value) (w:World) (h:Vp.cat e=true):Writes w 141 (e.vals al gr) (bodyC e):=by
 have r1:=rng1 _ _ _ h
 intro W c g _ _ _ hW
 have:=fw_cat c g [] e al gr e.cat.toNat W hW (by omega) (by omega) (by simp)
 rw[List.nil_append] at this
 exact this
theorem re_cat (e:En) (w:World) (h:Vp.cat e=true):Reads w 141 (bodyC e) (zcells e.kind e.name) ([],0) (fun _ _ cs=>cs=(onlyC e).vals (.slice none 0 0) (.slice none 0 0)):=by
 have r1:=rng1 _ _ _ h
 have hl:(bodyC e).length<=1000:=by
  have b2:=enc_le10 e.cat.toNat (by omega)
  unfold bodyC
  omega
 intro W c rb g _ _ _ _ hR
 refine (fr_cat c rb g (bodyC e,0) _ _ _ W hR hl).mono ?_
 rintro r w' ⟨rfl,hR',hG⟩
 have hb:=rd_bodyC e [] h
 rw[List.append_nil] at hb
 rw[hb] at hR'
 exact⟨rfl,hG,_,hR',vals_size _ _ _,vals_one _ _ _ rfl rfl,rfl⟩
def okC (e:En) (l2:List Int) (g2:List Gr):Bool:=Vp.nameC (Ds.bl e.name)&&Vp.cat e&&sameE (onlyC e) e [] l2 [] g2
theorem va_kind3 (e:En) (al gr:Value) (l2:List Int) (g2:List Gr) (w:World) (hk:e.kind=3) (hm:MaxL w) (h1:IS w al l2) (h2:GS w gr g2) :
  Calls Tryz.prog 44 #[.agg (e.vals al gr)] w fun r w'=>r=.returned (.bool (okC e l2 g2))∧Below w.heap.size w w':=by
 have hf:Instr.findNow (.int .i64) (.int .i64 e.kind) fe5.toList 0=some (some (3,.agg (formV (67:Nat) 139 141 143))):=by rw[hk];rfl
 have hn:=fun W (b:Below w.heap.size w W)=>va_nameC e.name W (hm.below b)
 have hv:=fun W (_:Below w.heap.size w W)=>va_cat e al gr W
 unfold okC
 cases hx:Vp.nameC (Ds.bl e.name)
 · rw[hx] at hn
   exact va_name 67 _ _ _ 3 e al gr w ent_f6 hf hn
 · rw[hx] at hn
   cases hy:Vp.cat e
   · rw[hy] at hv
     exact va_fields 67 _ _ _ 3 e al gr w ent_f6 ent_f8 hf hn hv
   · rw[hy] at hv
     refine va_bare 67 _ _ _ 3 e al gr (bodyC e) ([],0) _ _ w ent_f6 ent_f8 ent_f7 hf hn hv (fun W _=>wr_cat e al gr W hy) (fun W _=>re_cat e W hy) (fun _ _ _ _ h _ _=>h) rfl ?_
     rintro W b cs' hb rfl
     exact en_same (onlyC e) e _ _ al gr [] l2 [] g2 W (IS.nil W) (h1.below hb) (GS.nil W) (h2.below hb)
end
end Go.Proofs.YtnojclchnhmggaaGreatDoor
