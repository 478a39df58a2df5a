/- Several texts in one: Dd AwP AwQ. -/
import Derived.Test.YtlmgolkgodfmpaaGreatDoorAcD
import Derived.Test.YtlmgolkgodfmpaaGreatDoorEn
import Derived.Test.YtlmgolkgodfmpaaGreatDoorChA
import Derived.Test.YtlmgolkgodfmpaaGreatDoorRnC
import Derived.Test.YtlmgolkgodfmpaaGreatDoorRv
import Derived.Test.YtlmgolkgodfmpaaGreatDoorSh
section
/- Contracts of Needs: the program's and the reference's. Printed by wip/mkdd.py. -/
namespace Go.Proofs.YtlmgolkgodfmpaaGreatDoor
open Go.RowKit
set_option maxHeartbeats 4000000
set_option maxRecDepth 8000
structure DD (cs:Array Value) (inl dum:Bool) (st:ByteArray) (s n a:Int):Prop where
 sz:cs.size=35
 one:allOne cs.toList=true
 c4:cs[4]?=some (.string st)
 c6:cs[6]?=some (.int .i64 s)
 c7:cs[7]?=some (.int .i64 n)
 c8:cs[8]?=some (.int .i64 a)
 c32:cs[32]?=some (.bool inl)
 c34:cs[34]?=some (.bool dum)
def nd (inl dum:Bool) (st:ByteArray) (s n a:Int):Int :=
 if inl=true then 0 else if dum=true then 0 else if st≠⟨#[]⟩ then 0 else if s=0 then 3 else if n=2 then 3 else if a=2 then 3 else if s=2 then 1 else 2
theorem ldDD (ev:Operand→Value) (w:World) (dst x t pos af gd) (h1:isHead (ev x)=true) (h2:(row w (headOf (ev x))).size=35) :
  (execOp ev ⟨dst,.load 129 x,t,pos,af,gd⟩).run Tryz.prog w=.ok (.value (.agg (row w (headOf (ev x))))) w :=
 exec_load_row ev w _ 34 _ Tryz.underlying129 rfl (by kernel_rfl) dst x t pos af gd h1 h2
theorem stDD (ev:Operand→Value) (w:World) (zs:Array Value) (t:TypeId) (dst x y t' pos af gd) (h0:zs.size=35) (h1:isHead (ev x)=true) (h2:headOf (ev x)=w.heap.size) (h3:isAggV (ev y)=true) (h4:(cellsOfV (ev y)).size=35) (h5:allOne (cellsOfV (ev y)).toList=true) :
  (execOp ev ⟨dst,.store 129 x y,t',pos,af,gd⟩).run Tryz.prog (w.alloc (.cells zs t))=.ok .skip (w.alloc (.cells (cellsOfV (ev y)) t)) :=
 exec_store_new ev w _ 34 (by kernel_rfl) zs t dst x y t' pos af gd h0 h1 h2 h3 h4 h5
attribute [local go_sem ↓] ldDD stDD
attribute [local go_sem] Held_drew isHead_mk headOf_mk cellsOfV_mk isAggV_mk row_new row_new2 row_new2' row_drew row_drewN allOne_nil allOne_cons one_int one_bool one_string one_pointer one_slice
theorem needs (cs:Array Value) (inl dum:Bool) (st:ByteArray) (s n a:Int) (w:World) (h:DD cs inl dum st s n a) :
  Calls Tryz.prog 98 #[.agg cs] w fun r w'=>r=.returned (.int .i64 (nd inl dum st s n a))∧Below w.heap.size w w':=by
 obtain⟨hz,h1,c4,c6,c7,c8,c32,c34⟩:=h
 have R0:=row_new w cs 129 (0,0)
 have n4:=cell_row R0 4 _ c4
 have n6:=cell_row R0 6 _ c6
 have n7:=cell_row R0 7 _ c7
 have n8:=cell_row R0 8 _ c8
 have n32:=cell_row R0 32 _ c32
 have n34:=cell_row R0 34 _ c34
 clear c4 c6 c7 c8 c32 c34
 cases inl
 rotate_left
 · go_enter Tryz.func98,Tryz.ntmps98
   go_wp2_with fail
   go_ret
   exact⟨ret_int (by unfold nd;simp []),by exact belA⟩
 cases dum
 rotate_left
 · go_enter Tryz.func98,Tryz.ntmps98
   go_wp2_with fail
   go_ret
   exact⟨ret_int (by unfold nd;simp []),by exact belA⟩
 by_cases h0:st.size=0
 rotate_left
 · have e0:st.toList.isEmpty=false:=isEmpty_of _ (by omega)
   have E:st≠⟨#[]⟩:=fun h=>h0 (by rw[h];rfl)
   clear h0
   go_enter Tryz.func98,Tryz.ntmps98
   go_wp2_with fail
   go_ret
   exact⟨ret_int (by unfold nd;simp [E]),by exact belA⟩
 have e0:st.toList.isEmpty=true:=isEmpty_nil _ h0
 have E:st=⟨#[]⟩:=emp_of st h0
 clear h0
 by_cases k1:s=0
 · have q1:(s==0)=true:=by rw[beq_iff_eq];exact k1
   go_enter Tryz.func98,Tryz.ntmps98
   go_wp2_with fail
   go_ret
   exact⟨ret_int (by unfold nd;simp [E,k1]),by exact belA⟩
 have q1:(s==0)=false:=by rw[beq_eq_false_iff_ne];exact k1
 by_cases k2:n=2
 · have q2:(n==2)=true:=by rw[beq_iff_eq];exact k2
   go_enter Tryz.func98,Tryz.ntmps98
   go_wp2_with fail
   go_ret
   exact⟨ret_int (by unfold nd;simp [E,k1,k2]),by exact belA⟩
 have q2:(n==2)=false:=by rw[beq_eq_false_iff_ne];exact k2
 by_cases k3:a=2
 · have q3:(a==2)=true:=by rw[beq_iff_eq];exact k3
   go_enter Tryz.func98,Tryz.ntmps98
   go_wp2_with fail
   go_ret
   exact⟨ret_int (by unfold nd;simp [E,k1,k2,k3]),by exact belA⟩
 have q3:(a==2)=false:=by rw[beq_eq_false_iff_ne];exact k3
 by_cases k4:s=2
 · have q4:(s==2)=true:=by rw[beq_iff_eq];exact k4
   go_enter Tryz.func98,Tryz.ntmps98
   go_wp2_with fail
   go_ret
   exact⟨ret_int (by unfold nd;simp [E,k2,k3,k4]),by exact belA⟩
 have q4:(s==2)=false:=by rw[beq_eq_false_iff_ne];exact k4
 go_enter Tryz.func98,Tryz.ntmps98
 go_wp2_with fail
 go_ret
 exact⟨ret_int (by unfold nd;simp [E,k1,k2,k3,k4]),by exact belA⟩
end Go.Proofs.YtlmgolkgodfmpaaGreatDoor
end
section
/- The example of chapter 34: its profile. -/
namespace Go.Proofs.YtlmgolkgodfmpaaGreatDoor
open Go.RowKit
set_option maxHeartbeats 8000000
set_option maxRecDepth 8000
def eP:En:={ En.zero with kind:=4,name:=⟨#[80,65,89,46,42,42]⟩,lev:=1 }
def gsP:List Gr:=[(⟨#[65,85,68,73,84]⟩,true,0),(⟨#[83,77,73,84,72]⟩,false,2)]
def nmP:ByteArray:=⟨#[80,65,89,46,77,65,83,84,69,82]⟩
def xP:Ef:=⟨eP,0,2,gsP⟩
def yP:Fu:=(eP,[],gsP)
theorem aw_okQ:okQ xP=true:=by
 unfold okQ
 rw[show sameE (onlyP xP.e) xP.e [] [] xP.gs xP.gs=true from (sameE_eq _ _ _ _ _ _).2 ⟨by unfold onlyP xP eP;rfl,rfl,rfl⟩]
 decide +kernel
theorem aw_okX:okX yP=true:=(okQ_okX xP [] rfl rfl).trans aw_okQ
theorem aw_len:(keyX yP).length=32∧(recX yP).length≤200∧(bodyX yP).length≤100000:=by decide +kernel
theorem aw_dec:decX (recX yP)=some yP:=decX_rec yP aw_okX aw_len.2.1
theorem aw_match:Ds.match_ (Ds.bl eP.name) (Ds.bl nmP)=true:=by
 rw[Ds.match_parts]
 refine⟨by decide +kernel,by decide +kernel,(Ds.mt_iff _ _ _ _).2 ?_⟩
 exact .one (by decide) (by rw[Ds.mtQ_eq _ _ (by decide)];decide) (.eat (by decide) (.skip (by decide) .nil))
theorem aw_hits:hits (Ds.bl nmP) xP=true:=by
 unfold hits
 rw[aw_okQ,show Ds.match_ (Ds.bl xP.e.name) (Ds.bl nmP)=true from aw_match];rfl
theorem aw_best:best (Ds.bl nmP) [xP]=some xP:=by
 show bstep (Ds.bl nmP) none xP=some xP
 unfold bstep
 rw[if_pos ⟨aw_hits,rfl⟩]
theorem aw_name:Ds.name (Ds.bl nmP)=true:=by decide +kernel
theorem aw_first:Ds.first 1 (Ds.bl nmP)=[80,65,89]:=by decide +kernel
theorem aw_lvl1:lvl [xP] ⟨#[83,77,73,84,72]⟩ [⟨#[65,85,68,73,84]⟩] nmP=2:=by
 rw[lvl_yes _ _ _ _ aw_name,if_neg (by rw[aw_first];decide),aw_best]
 decide +kernel
theorem aw_lvl2:lvl [xP] ⟨#[74,79,78,69,83]⟩ [] nmP=1:=by
 rw[lvl_yes _ _ _ _ aw_name,if_neg (by rw[aw_first];decide),aw_best]
 decide +kernel
theorem aw_lvl3:lvl [xP] ⟨#[80,65,89]⟩ [] nmP=3:=by
 rw[lvl_yes _ _ _ _ aw_name,if_pos (by rw[aw_first];decide)]
theorem aw_lvl4:lvl [xP] ⟨#[74,79,78,69,83]⟩ [⟨#[65,85,68,73,84]⟩] nmP=0:=by
 rw[lvl_yes _ _ _ _ aw_name,if_neg (by rw[aw_first];decide),aw_best]
 decide +kernel
def rP:Rw:=rowE 1 (recX yP)
theorem rP_key:Ds.bl rP.2.1=keyX yP:=by
 unfold rP rowE
 simp only
 rw[Ds.bl_mk]
 unfold recX
 rw[List.take_append_of_le_length (by rw[aw_len.1];exact Nat.le_refl _),List.take_of_length_le (by rw[aw_len.1];exact Nat.le_refl _)]
theorem rP_rec:Ds.bl rP.2.2=recX yP:=by unfold rP rowE;exact Ds.bl_mk _
theorem aw_k1:ltB [79,255] (keyX yP)=true∧(keyX yP).headD 0=80:=by decide +kernel
theorem aw_pro (ca:Int) (h:0≤ca):proF [rP] 1 0 0 2 ca [79,255] []=([yP],0,ca+2):=by
 have n1:nx 1 [79,255] [rP]=some rP:=by
  show nxs 1 [79,255] none rP=some rP
  unfold nxs nxq
  rw[rP_key,aw_k1.1]
  rfl
 have n2:nx 1 (keyX yP) [rP]=none:=by
  show nxs 1 (keyX yP) none rP=none
  unfold nxs nxq
  rw[rP_key,ltB_irr]
  rfl
 rw[proF,if_neg (by omega),n1]
 simp only
 rw[rP_key,aw_k1.2,if_neg (by decide),if_neg (by decide),rP_rec,aw_dec]
 simp only
 rw[if_pos trivial,proF,if_neg (by omega),n2]
 simp only[List.nil_append]
 rw[show ca+1+1=ca+2 by omega]
attribute [local go_sem ↓] ldEnt stEnt stEnt2
attribute [local go_sem] Held_drew isHead_mk headOf_mk cellsOfV_mk isAggV_mk row_new row_new2 row_new2' row_drew row_drewN vals_size allOne_nil allOne_cons one_int one_bool one_string one_pointer one_slice
theorem aw_profile (w:World):Calls Tryz.prog 95 #[] w fun r w'=>∃ b,r=.returned (.agg (eP.vals (.slice none 0 0) (.slice (some ⟨b,0,none⟩) 2 2)))∧GS w' (.slice (some ⟨b,0,none⟩) 2 2) gsP∧Below w.heap.size w w':=by
 go_enter Tryz.func95,Tryz.ntmps95
 go_wp2_with fail
 refine bodyPost_ret (res_row1 (n:=32) rfl Tryz.underlying27 rfl (by kernel_rfl) _ _ w.heap.size rfl (by rw[row_new2];rfl)) rfl ?_
 rw[row_new2]
 refine⟨w.heap.size+1,by unfold eP En.zero En.vals;rfl,?_,by exact belA⟩
 exact⟨_,_,rfl,by decide,fun _=>⟨w.heap.size+1,0,rfl,by simp,fun k hk=>by
  have R:=fun cs t o=>row_new2' w cs t (0,0) o
  have hk2:k<2:=hk
  rcases (by omega:k=0∨k=1) with rfl | rfl
  · exact⟨cell_row (R _ _ _) 0 _ rfl,cell_row (R _ _ _) 1 _ rfl,cell_row (R _ _ _) 2 _ rfl⟩
  · exact⟨cell_row (R _ _ _) 3 _ rfl,cell_row (R _ _ _) 4 _ rfl,cell_row (R _ _ _) 5 _ rfl⟩⟩⟩
theorem ext33 (cs:Array Value) (h:cs.size=33) (i j:Nat) (hi:i=0) (hj:j=33):cs.extract i j=cs:=by
 subst hi hj;rw[← h];exact Array.extract_size
theorem aw_rows (b:Nat) (w w1:World) (hg:GS w (.slice (some ⟨b,0,none⟩) 2 2) gsP) (h1:w1=w.alloc (.cells (eP.vals (.slice none 0 0) (.slice (some ⟨b,0,none⟩) 2 2)) 27)) :
  Calls Tryz.prog 43 #[.int .i64 1,.slice (some ⟨w.heap.size,0,none⟩) 1 1] w1 fun r w'=>∃ v,r=.returned v∧RwS w' v [rP]∧Below w1.heap.size w1 w':=by
 have hm:mid w1 w.heap.size (0+0*33)=eP.vals (.slice none 0 0) (.slice (some ⟨b,0,none⟩) 2 2):=by
  subst h1
  unfold mid
  rw[row_new]
  exact ext33 _ (vals_size _ _ _) _ _ rfl rfl
 have hg1:GS w1 (.slice (some ⟨b,0,none⟩) 2 2) gsP:=by subst h1;exact hg.below ((Below.refl _ _).alloc (Nat.le_refl _) _)
 refine (rrows 1 w.heap.size 0 1 1 (fun _=>some (recX yP)) w1 (by decide) (fun k hk=>?_) (fun k hk W B=>?_)).mono ?_
 · obtain rfl:k=0:=by omega
   rw[hm];exact vals_size _ _ _
 · obtain rfl:k=0:=by omega
   rw[hm]
   have hgW:=hg1.below B
   refine (rencode eP (.slice none 0 0) (some ⟨b,0,none⟩) 2 2 true (bodyP eP gsP) W rfl (fun W2 B2=>?_) (fun _=>⟨?_,?_,fun W2 B2=>?_⟩)).mono ?_
   · have h:=rva_ef xP none 0 (.slice (some ⟨b,0,none⟩) 2 2) W2 rfl (by decide) (hgW.below B2)
     rw[aw_okQ] at h
     exact h
   · decide +kernel
   · decide +kernel
   · exact rbody4 eP (.slice none 0 0) (some ⟨b,0,none⟩) 2 2 gsP W2 rfl (hgW.below B2) (prof_ok eP gsP (by decide +kernel)).1
   · rintro _ w' ⟨t,rfl,ht,hb⟩
     refine⟨t,rfl,fun s hs=>?_,hb⟩
     obtain rfl:=Option.some.inj hs
     refine⟨ht.trans ?_,?_⟩
     · rfl
     · unfold recX;rw[List.length_append,aw_len.1];omega
 · rintro _ w' ⟨v,rfl,hr,-,hb⟩
   exact⟨v,rfl,hr,hb⟩
end Go.Proofs.YtlmgolkgodfmpaaGreatDoor
end
section
/- The example of chapter 34. -/
namespace Go.Proofs.YtlmgolkgodfmpaaGreatDoor
open Go.RowKit
set_option maxHeartbeats 8000000
set_option maxRecDepth 8000
theorem aw_es (b:Nat) (w:World) (hg:GS w (.slice (some ⟨b,0,none⟩) 2 2) gsP) (t:TypeId):ES (w.alloc (.cells (eP.vals (.slice none 0 0) (.slice (some ⟨b,0,none⟩) 2 2)) t)) (some ⟨w.heap.size,0,none⟩) 1 (fun _=>xP):=by
 refine⟨by decide,fun k hk=>?_⟩
 obtain rfl:k=0:=by omega
 refine⟨w.heap.size,0,rfl,by simp,none,0,some ⟨b,0,none⟩,2,?_,by decide,by decide,fun _=>⟨rfl,hg.below ((Below.refl _ _).alloc (Nat.le_refl _) _)⟩⟩
 unfold mid
 rw[row_new]
 exact ext33 _ (vals_size _ _ _) _ _ rfl rfl
theorem aw_F:∀ k,k<1→((fun _=>xP:Nat→Ef) k).e.name.size≤60∧((fun _=>xP:Nat→Ef) k).n2≤1000:=fun _ _=>⟨Nat.le_of_ble_eq_true rfl,Nat.le_of_ble_eq_true rfl⟩
theorem aw_bestC (a:Option Addr) (c:Nat) (w:World) (hm:MaxL w) (hES:ES w a 1 (fun _=>xP)) :
  Calls Tryz.prog 96 #[.slice a 1 c,.string nmP] w fun r w'=>∃ (a1:Option Addr) (c1:Nat) (gr:Value),r=.returned (.tuple #[.agg (eP.vals (.slice a1 0 c1) gr),.bool true])∧one gr=true∧Below w.heap.size w w':=by
 refine (ac_best a 1 c (fun _=>xP) nmP w hm hES (by decide) aw_F).mono ?_
 rintro r w' ⟨h | ⟨x,a1,c1,gr,h1,rfl,hg⟩,hb⟩
 · rw[show best (Ds.bl nmP) (lst (fun _=>xP) 1)=some xP from aw_best] at h;cases h.1
 · rw[show best (Ds.bl nmP) (lst (fun _=>xP) 1)=some xP from aw_best] at h1
   cases h1
   exact⟨a1,c1,gr,rfl,gs_one hg,hb⟩
theorem aw_shelf (v:Value) (w:World) (hr:RwS w v [rP]):SHs w (w.alloc (.cells #[v,.int .i64 0,.int .i64 0,.int .i64 0] 61)) w.heap.size v [rP] 0 0 0:=by
 refine⟨⟨row_new _ _ _ _,fun o=>by simp⟩,hr.below ((Below.refl _ _).alloc (Nat.le_refl _) _),fun b hb e=>?_,Nat.le_refl _,by simp,(Below.refl _ _).alloc (Nat.le_refl _) _⟩
 have:=rws_own_lt hr (by simp) b hb
 omega
theorem ss_one (w:World) (s:ByteArray) (t:TypeId):SS (w.alloc (.cells #[.string s] t)) (.slice (some ⟨w.heap.size,0,none⟩) 1 1) [s] :=
 ⟨_,1,rfl,Nat.le_of_ble_eq_true rfl,fun _=>⟨w.heap.size,0,rfl,by simp,fun k hk=>by
  obtain rfl:k=0:=by simpa using hk
  rw[cell_of_row _ w.heap.size (0+0) _ t (0,0) (heap_alloc_new w _)];rfl⟩⟩
attribute [local go_sem ↓] ldEnt stEnt stEnt2 bldEnt
attribute [local go_sem] Held_drew isHead_mk headOf_mk cellsOfV_mk isAggV_mk row_new row_new2 row_new2' row_drew row_drewN vals_size allOne_nil allOne_cons one_int one_bool one_string one_pointer one_slice
def zDD:Array Value:=#[.string ⟨#[]⟩,.string ⟨#[]⟩,.bool false,.int .i64 0,.string ⟨#[]⟩,.string ⟨#[]⟩,.int .i64 0,.int .i64 0,.int .i64 0,.int .i64 0,.int .i64 0,.int .i64 0,.int .i64 0,.int .i64 0,.int .i64 0,.int .i64 0,.int .i64 0,.int .i64 0,.int .i64 0,.int .i64 0,.int .i64 0,.int .i64 0,.int .i64 0,.bool false,.int .i64 0,.string ⟨#[]⟩,.string ⟨#[]⟩,.int .i64 0,.int .i64 0,.bool false,.int .i64 0,.int .i64 0,.bool false,.slice none 0 0,.bool false]
theorem aw_needs (w:World):Calls Tryz.prog 98 #[.agg zDD] w fun r w'=>r=.returned (.int .i64 3)∧Below w.heap.size w w' :=
 needs zDD false false ⟨#[]⟩ 0 0 0 w ⟨rfl,rfl,rfl,rfl,rfl,rfl,rfl,rfl⟩
theorem aw_lev (a:Option Addr) (c:Nat) (u:ByteArray) (gv:Value) (gl:List ByteArray) (r0:Int) (w:World) (hm:MaxL w) (hES:ES w a 1 (fun _=>xP)) (hgl:SS w gv gl) (hr:lvl [xP] u gl nmP=r0) :
  Calls Tryz.prog 97 #[.slice a 1 c,.string u,gv,.string nmP] w fun r w'=>r=.returned (.int .i64 r0)∧Below w.heap.size w w':=by
 have h:=ac_level a 1 c (fun _=>xP) u nmP gv gl w hm hES (by decide) aw_F hgl
 rw[show lst (fun _=>xP) 1=[xP] from rfl,hr] at h
 exact h
theorem aw_chk (ca:Int) (h:0≤ca):(chkF [rP] 1 0 0 ca ⟨#[74,79,78,69,83]⟩ [⟨#[65,85,68,73,84]⟩] nmP 1).1=17:=by
 unfold chkF
 rw[if_neg (by rw[aw_name];simp),if_neg (by decide)]
 simp only
 rw[show ([rP]:List Rw).length+1=2 from rfl,aw_pro ca h]
 simp only
 rw[if_neg (by simp),show List.map toEf [yP]=[xP] from rfl,aw_lvl4,if_pos (by decide)]
theorem aw_prof (p:Nat) (sv:Value) (w0 w:World) (hm:MaxL w0) (hT:Tab w0) (hS:SHs w0 w p sv [rP] 0 0 0) :
  Calls Tryz.prog 36 #[.iface 45 (.pointer (some ⟨p,0,none⟩)),.int .i64 1] w fun r w'=>∃ a c,r=.returned (.tuple #[.slice a 1 c,.int .i64 0])∧SHs w0 w' p sv [rP] 0 0 2∧w.grownBy w' (some p):=by
 refine (pr_loop p sv [rP] 0 0 0 1 w0 w hm hT hS (by decide) (by decide) (by simp) (Or.inr (by decide))).mono ?_
 rintro r w' ⟨hv,rows,h1,hJ,h2,h3⟩
 rw[show ([rP]:List Rw).length+1=2 from rfl,aw_pro 0 (by decide)] at h1 hJ h2
 obtain⟨a,c,rfl⟩:=owns_sl hJ.own
 exact⟨a,c,h1,h2,h3⟩
theorem aw_check (p:Nat) (sv gv:Value) (w0 w:World) (hm:MaxL w0) (hT:Tab w0) (hS:SHs w0 w p sv [rP] 0 0 2) (hgl:SS w gv [⟨#[65,85,68,73,84]⟩]) (hgp:∀ b,gv.ownBlock=some b→b≠p) :
  Calls Tryz.prog 39 #[.iface 45 (.pointer (some ⟨p,0,none⟩)),.int .i64 1,.string ⟨#[74,79,78,69,83]⟩,gv,.string nmP,.int .i64 1] w fun r w'=>r=.returned (.int .i64 17)∧Below w0.heap.size w0 w':=by
 refine (ac_check p sv [rP] 0 0 2 1 ⟨#[74,79,78,69,83]⟩ gv [⟨#[65,85,68,73,84]⟩] nmP 1 w0 w hm hT hS (by decide) (by decide) (by simp) (Or.inr (by decide)) hgl (fun _=>hgp)).mono ?_
 rintro r w' ⟨rfl,h2,h3⟩
 rw[aw_chk 2 (by decide)]
 exact⟨rfl,h2.b⟩
theorem aw_gp {p q:Nat} (h:p<q):∀ b,(Value.slice (some ⟨q,0,none⟩) 1 1).ownBlock=some b→b≠p:=fun b hb e=>by
 have h1:q=b:=Option.some.inj hb
 omega
theorem aw34 (w:World) (hm:MaxL w) (hT:Tab w):Calls Tryz.prog 35 #[] w fun r w'=>r=.returned (.bool true)∧Below w.heap.size w w':=by
 have HP:=Lib.hid (aw_profile w)
 go_enter Tryz.func35,Tryz.ntmps35
 go_wp2_with (first
  | (go_at_call 95;(refine HP.out.mono ?_);rintro _ w1 ⟨b,rfl,hg,hb⟩;have HG:=Lib.hid hg;have B1:=Lib.hid hb;clear hb hg)
  | (go_at_call 43;(refine (aw_rows b w1 _ HG.out rfl).mono ?_);rintro _ w2 ⟨v,rfl,hr,hb⟩;obtain⟨va,vc,rfl,-⟩:=id hr;have B2:=Lib.hid (bt B1.out (below1 hb));have hm2:=Lib.hid (hm.below B2.out);have hT2:=Lib.hid (hT.below B2.out);have HES:=Lib.hid ((aw_es b w1 HG.out _).below hb);have HS:=Lib.hid (aw_shelf _ w2 hr);clear hr hb)
  | (go_at_call 96;(refine (aw_bestC _ _ _ (hm2.out.below HS.out.b) (HES.out.below HS.out.b)).mono ?_);rintro _ w3 ⟨a1,c1,gr,rfl,hone1,hb⟩;have hone:=vals_one eP (.slice a1 0 c1) gr rfl hone1;have S3:=Lib.hid ((HS.out.below hb).below (below_al' w3 (.cells (eP.vals (.slice a1 0 c1) gr) 27)));have z3:=(HS.out.below hb).pl;clear hb)
  | (go_at_call 36;(refine (aw_prof _ _ _ _ hm2.out hT2.out S3.out).mono ?_);rintro _ w4 ⟨la,lc,rfl,s4,g4⟩;have N1:w4.cell? ⟨w3.heap.size,1,none⟩=some (.string ⟨#[80,65,89,46,42,42]⟩):=((World.cell?_of_block (a:=⟨w3.heap.size,1,none⟩) (g4.block w3.heap.size (by simp) (by intro e;have:=Option.some.inj e;omega))).trans (cell_row (row_new w3 _ _ (0,0)) 1 _ (vals_1 _ _ _)));have S4:=Lib.hid s4;clear s4 g4)
  | (go_at_call 97;have z0:=S7;(refine (aw_lev _ _ ⟨#[80,65,89]⟩ _ [] 3 _ (hm2.out.below S6.out.b) (HES.out.below S6.out.b) (SS.nil _) aw_lvl3).mono ?_);rintro _ w7 ⟨rfl,hb⟩;have S8:=Lib.hid (S6.out.below hb);clear hb)
  | (go_at_call 39;(refine (aw_check _ _ _ _ _ hm2.out hT2.out (S8.out.below (below_al' _ _)) (ss_one w7 _ _) (aw_gp S8.out.pl)).mono ?_);rintro _ w8 ⟨rfl,hb8⟩)
  | (go_at_call 98;(refine (aw_needs _).mono ?_);rintro _ w9 ⟨rfl,hb9⟩)
  | (go_at_call 97;have z0:=S5;(refine (aw_lev _ _ ⟨#[74,79,78,69,83]⟩ _ [] 1 _ (hm2.out.below S5.out.b) (HES.out.below S5.out.b) (SS.nil _) aw_lvl2).mono ?_);rintro _ w6 ⟨rfl,hb⟩;have S7:=trivial;have S6:=Lib.hid (S5.out.below hb);clear hb)
  | (go_at_call 97;(refine (aw_lev _ _ ⟨#[83,77,73,84,72]⟩ _ [⟨#[65,85,68,73,84]⟩] 2 _ (hm2.out.below (bt S4.out.b (below_al' _ _))) (HES.out.below (bt S4.out.b (below_al' _ _))) (ss_one w4 _ _) aw_lvl1).mono ?_);rintro _ w5 ⟨rfl,hb⟩;have S5:=Lib.hid ((S4.out.below (below_al' _ _)).below hb);clear hb))
 go_ret
 exact⟨rfl,bt B2.out (bt hb8 hb9)⟩
end Go.Proofs.YtlmgolkgodfmpaaGreatDoor
end
