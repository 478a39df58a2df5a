/- Catalogs. -/
import Derived.Test.YtefcmdmfgdcpmaaGreatDoorShelf
import Derived.Test.YtefcmdmfgdcpmaaGreatDoorDs
import Derived.Test.YtefcmdmfgdcpmaaGreatDoorEn
import Derived.BigGuardPart
set_option maxRecDepth 8000
set_option maxHeartbeats 16000000
namespace Go.Proofs.YtefcmdmfgdcpmaaGreatDoor
open Go.RowKit
def IS(w:World)(v:Value)(l:List Int):Prop :=
 ∃ a c,v=.slice a l.length c∧l.length<=1000000∧(0<l.length->∃ b o,a=some ⟨b,o,none⟩∧b<w.heap.size∧∀ k (h:k<l.length),w.cell? ⟨b,o+k,none⟩=some (.int .i64 l[k]))
theorem IS.below{w w':World}{v:Value}{l:List Int}(h:IS w v l)(hb:Below w.heap.size w w'):IS w' v l:=by
 obtain⟨a,c,h1,h2,h3⟩:=h;refine⟨a,c,h1,h2,fun h0=>?_⟩
 obtain⟨b,o,ha,hlt,hc⟩:=h3 h0;exact⟨b,o,ha,Nat.lt_of_lt_of_le hlt hb.size,fun k hk=>(hb.cell (p:=⟨b,o+k,none⟩) hlt).trans (hc k hk)⟩
theorem IS.nil(w:World):IS w (.slice none 0 0) []:=⟨none,0,rfl,by decide,fun h=>by simp at h⟩
theorem IS.drew{w:World}{v:Value}{l:List Int}(h:IS w v l):IS w.drew v l:=h
theorem zov(v1 v2:Value)(l1 l2:List Int)(w:World)(h1:IS w v1 l1)(h2:IS w v2 l2) :
  Calls Tryz.prog 40 #[v1,v2] w fun e w'=>e=.returned (.bool (decide (l1=l2)))∧Below w.heap.size w w':=by
 obtain⟨a1,c1,rfl,hz1,hc1⟩:=h1;obtain⟨a2,c2,rfl,hz2,hc2⟩:=h2;by_cases hn:l1.length=l2.length
 · by_cases h0:0<l1.length
   · obtain⟨b1,o1,rfl,-,hc1⟩:=hc1 h0;obtain⟨b2,o2,rfl,-,hc2⟩:=hc2 (by omega);refine (Tryz.slices_Equal_int b1 o1 l1.length c1 b2 o2 l2.length c2 l1 l2 w (Nat.le_refl _) (Nat.le_refl _) (Nat.le_trans hz1 (by decide)) (Nat.le_trans hz2 (by decide)) (fun j hj=>?_) (fun j hj=>?_)).mono ?_
     · rw[hc1 j hj];simp [List.getD_eq_getElem?_getD,List.getElem?_eq_getElem hj]
     · rw[hc2 j hj];simp [List.getD_eq_getElem?_getD,List.getElem?_eq_getElem hj]
     · rintro e w' ⟨rfl,q,rfl⟩;exact⟨zaF (by rw[List.take_length,List.take_length,Bool.eq_iff_iff,beq_iff_eq,decide_eq_true_eq]),below_drewN (Below.refl _ _) q⟩
   · obtain rfl:l1=[]:=List.eq_nil_of_length_eq_zero (by omega);obtain rfl:l2=[]:=List.eq_nil_of_length_eq_zero (by simpa using hn.symm);refine (Tryz.slices_Equal_int_empty a1 a2 c1 0 c2 w (by decide)).mono ?_
     rintro e w' ⟨rfl,rfl⟩;exact⟨rfl,Below.refl _ _⟩
 · refine (Tryz.slices_Equal_int_lens a1 a2 l1.length c1 l2.length c2 w hn).mono ?_
   rintro e w' ⟨rfl,rfl⟩;exact⟨zaF (by rw[eq_comm,decide_eq_false_iff_not];intro e;exact hn (by rw[e])),Below.refl _ _⟩
abbrev Gr:=ByteArray × Bool × Int
def GS(w:World)(v:Value)(l:List Gr):Prop :=
 ∃ a c,v=.slice a l.length c∧l.length<=1000000∧(0<l.length->∃ b o,a=some ⟨b,o,none⟩∧b<w.heap.size∧∀ k (h:k<l.length),w.cell? ⟨b,o+k*3,none⟩=some (.string l[k].1)∧w.cell? ⟨b,o+k*3+1,none⟩=some (.bool l[k].2.1)∧w.cell? ⟨b,o+k*3+2,none⟩=some (.int .i64 l[k].2.2))
theorem GS.below{w w':World}{v:Value}{l:List Gr}(h:GS w v l)(hb:Below w.heap.size w w'):GS w' v l:=by
 obtain⟨a,c,h1,h2,h3⟩:=h;refine⟨a,c,h1,h2,fun h0=>?_⟩
 obtain⟨b,o,ha,hlt,hc⟩:=h3 h0;exact⟨b,o,ha,Nat.lt_of_lt_of_le hlt hb.size,fun k hk=>⟨(hb.cell (p:=⟨b,o+k*3,none⟩) hlt).trans (hc k hk).1,(hb.cell (p:=⟨b,o+k*3+1,none⟩) hlt).trans (hc k hk).2.1,(hb.cell (p:=⟨b,o+k*3+2,none⟩) hlt).trans (hc k hk).2.2⟩⟩
theorem GS.nil(w:World):GS w (.slice none 0 0) []:=⟨none,0,rfl,by decide,fun h=>by simp at h⟩
theorem zrJ(a1 a2:Option Addr)(n1 n2 c1 c2:Nat)(w:World)(hn:n1≠n2) :
  Calls Tryz.prog 41 #[.slice a1 n1 c1,.slice a2 n2 c2] w fun e w'=>e=.returned (.bool false)∧w=w':=by
 have e1:(n1==n2)=false:=by simpa using hn
 have e2:((n1:Int)==(n2:Int))=false:=by rw[beq_eq_false_iff_ne];omega
 clear hn;go_enter Tryz.func41,Tryz.ntmps41
 go_wp2_with fail
 go_ret
 exact⟨rfl,rfl⟩
theorem zop(a1 a2:Option Addr)(c1 c2:Nat)(w:World) :
  Calls Tryz.prog 41 #[.slice a1 0 c1,.slice a2 0 c2] w fun e w'=>e=.returned (.bool true)∧w=w':=by
 go_enter Tryz.func41,Tryz.ntmps41
 go_wp2_with fail
 go_loop [5,13] (fun _ i=>i=.int .i64 0) (fun _ _=>0)
 case atStart=>exact rfl
 case round =>
  obtain rfl:=hrel;go_wp2_with fail
  go_ret
  exact⟨rfl,rfl⟩
theorem ztZ(a b:Gr)(w:World):(binOp .neq 103 (.agg #[.string a.1,.bool a.2.1,.int .i64 a.2.2]) (.agg #[.string b.1,.bool b.2.1,.int .i64 b.2.2])).run Tryz.prog w=.ok (.bool (!decide (a=b))) w:=by
 obtain⟨a1,a2,a3⟩:=a;obtain⟨b1,b2,b3⟩:=b;rw[run_neq_struct,run_equalIn_struct w 9999 103 _ _ (by simp [Program.fieldsOf,Tryz.underlying103]) (by kernel_rfl)];simp [Program.fieldsOf,Tryz.underlying103,Op.eqFields,go_sem]
 have e:(a1.toList=b1.toList)=(a1=b1):=propext ⟨fun h=>by
  have h1:=Lib.toList_data a1;have h2:=Lib.toList_data b1;exact Ds.bl_inj (h1.symm.trans (h.trans h2)),fun h=>by rw[h]⟩
 by_cases h1:a1=b1
 · subst h1;by_cases h2:a2=b2
   · by_cases h3:a3=b3 <;> simp [h2,h3]
   · simp [h2]
 · rw[if_neg (fun h=>h1 (e ▸ h))];simp [h1]
theorem zrM(b1 o1 b2 o2 c1 c2:Nat)(l1 l2:List Gr)(w:World)(hn:l1.length=l2.length)(hz:l1.length<=1000000)(h1:∀ k (h:k<l1.length),w.cell? ⟨b1,o1+k*3,none⟩=some (.string l1[k].1)∧w.cell? ⟨b1,o1+k*3+1,none⟩=some (.bool l1[k].2.1)∧w.cell? ⟨b1,o1+k*3+2,none⟩=some (.int .i64 l1[k].2.2))(h2:∀ k (h:k<l2.length),w.cell? ⟨b2,o2+k*3,none⟩=some (.string l2[k].1)∧w.cell? ⟨b2,o2+k*3+1,none⟩=some (.bool l2[k].2.1)∧w.cell? ⟨b2,o2+k*3+2,none⟩=some (.int .i64 l2[k].2.2)) :
  Calls Tryz.prog 41 #[.slice (some ⟨b1,o1,none⟩) l1.length c1,.slice (some ⟨b2,o2,none⟩) l2.length c2] w fun e w'=>e=.returned (.bool (decide (l1=l2)))∧Below w.heap.size w w':=by
 have H1:=lh h1;have H2:=lh h2;have HN:=lh hn;clear h1 h2;rw[<-hn];clear hn;go_enter Tryz.func41,Tryz.ntmps41
 go_wp2_with fail
 go_loopw [5,13] (fun _ i wr=>∃ k:Nat,k<=l1.length∧i=.int .i64 k∧l1.take k=l2.take k∧∃ q,wr=w.drewN q) (fun _ i _=>l1.length - (intOf i).toNat)
 case atStart=>exact⟨0,Nat.zero_le _,rfl,rfl,0,rfl⟩
 case round =>
  obtain⟨k,hk,rfl,he,q,rfl⟩:=hrel;have HE:=lh he;clear he;by_cases hlt:k<l1.length
  · obtain⟨p1,p2,p3⟩:=H1.out k hlt;obtain⟨q1,q2,q3⟩:=H2.out k (by rw[<-HN.out];exact hlt);have hq:=fun W=>ztZ l1[k] l2[k] W
    by_cases hd:l1[k]=l2[k]
    · have HD:=lh hd;rw[decide_eq_true hd] at hq;clear hd;go_wp2_with fail
      go_quiet (fail)
      go_wp2_with fail
      go_roundw
      case rel =>
       refine⟨k+1,by omega,by go_num,?_,_,rfl⟩
       have hk2:k<l2.length:=by rw[<-HN.out];exact hlt
       rw[List.take_succ_eq_append_getElem hlt,List.take_succ_eq_append_getElem hk2,HE.out,HD.out]
      case measure=>simp [intOf];omega
    · have HD:=lh hd;rw[decide_eq_false hd] at hq;clear hd;go_wp2_with fail
      go_quiet (fail)
      go_wp2_with fail
      go_ret
      exact⟨zaF (by
       symm
       rw[decide_eq_false_iff_not];intro e;subst e;exact HD.out rfl),below_drewN (below_drewN (Below.refl _ _) _) _⟩
  · go_wp2_with fail
    go_ret
    exact⟨zaF (by
     symm
     rw[decide_eq_true_eq];have:=HE.out;rw[List.take_of_length_le (by omega),List.take_of_length_le (by rw[<-HN.out];omega)] at this;exact this),below_drewN (Below.refl _ _) _⟩
theorem zoq(v1 v2:Value)(l1 l2:List Gr)(w:World)(h1:GS w v1 l1)(h2:GS w v2 l2) :
  Calls Tryz.prog 41 #[v1,v2] w fun e w'=>e=.returned (.bool (decide (l1=l2)))∧Below w.heap.size w w':=by
 obtain⟨a1,c1,rfl,hz1,hc1⟩:=h1;obtain⟨a2,c2,rfl,hz2,hc2⟩:=h2;by_cases hn:l1.length=l2.length
 · by_cases h0:0<l1.length
   · obtain⟨b1,o1,rfl,-,hc1⟩:=hc1 h0;obtain⟨b2,o2,rfl,-,hc2⟩:=hc2 (by omega);exact zrM b1 o1 b2 o2 c1 c2 l1 l2 w hn hz1 hc1 hc2
   · obtain rfl:l1=[]:=List.eq_nil_of_length_eq_zero (by omega);obtain rfl:l2=[]:=List.eq_nil_of_length_eq_zero (by simpa using hn.symm);refine (zop a1 a2 c1 c2 w).mono ?_
     rintro e w' ⟨rfl,rfl⟩;exact⟨rfl,Below.refl _ _⟩
 · refine (zrJ a1 a2 l1.length l2.length c1 c2 w hn).mono ?_
   rintro e w' ⟨rfl,rfl⟩;exact⟨zaF (by rw[eq_comm,decide_eq_false_iff_not];intro e;exact hn (by rw[e])),Below.refl _ _⟩
def zmi:Value->Bool|.pointer (some ⟨_,2,none⟩)=>true|_=>false
theorem zbG(g:Nat):zmi (.pointer (some ⟨g,2,none⟩))=true:=rfl
theorem zew(ev:Operand->Value)(w:World)(dst x t pos af gd)(h1:zmi (ev x)=true)(h2:(row w (za0 (ev x))).size=33) :
  (execOp ev ⟨dst,.load 37 x,t,pos,af,gd⟩).run Tryz.prog w=.ok (.value (.agg ((row w (za0 (ev x))).extract 2 23))) w:=by
 obtain⟨g,hg⟩:∃ g,ev x=.pointer (some ⟨g,2,none⟩):=by
  unfold zmi at h1;split at h1
  · rename_i g h;exact⟨g,h⟩
  · cases h1
 rw[hg,zal] at h2 ⊢;simp only at h2 ⊢
 unfold execOp
 have hc:w.rangeAt g 2 ((row w g).extract 2 23).toList:=fun j v hv=>by
  rw[Array.getElem?_toList,Array.getElem?_extract] at hv;split at hv
  · exact zah rfl (2+j) v hv
  · cases hv
 have hl:((row w g).extract 2 23).toList.length=21:=by simp [h2]
 have hr:=run_loadAt_mid (P:=Tryz.prog) w g 2 37 _ _ hc Tryz.underlying37 rfl (by rw[hl];kernel_rfl);simp only[hg,Sem.run_bind,hr,Result.andThen_ok,Sem.run_pure,Array.toArray_toList]
theorem znu(a b:ByteArray):(a.toList=b.toList)↔(a=b):=⟨fun h=>by
  have h1:=Lib.toList_data a;have h2:=Lib.toList_data b;exact Ds.bl_inj (h1.symm.trans (h.trans h2)),fun h=>by rw[h]⟩
theorem zub(c:Prop)[Decidable c](b:Bool)(w:World):(if c then (Result.ok (Value.bool b) w:Result Value) else .ok (.bool false) w)=.ok (.bool (decide c&&b)) w:=by by_cases h:c <;> simp [h]
theorem zgx(e f:En)(w:World):(binOp .eql 37 (.agg e.dat) (.agg f.dat)).run Tryz.prog w=.ok (.bool (ziD e f)) w:=by
 rw[run_eql_struct,run_equalIn_struct w 9999 37 _ _ (by simp [Program.fieldsOf,Tryz.underlying37]) (by kernel_rfl)];unfold En.dat;simp [Program.fieldsOf,Tryz.underlying37,Op.eqFields,go_sem]
 simp only[zub]
 have hb:∀ x y:Bool,x=y->(Result.ok (Value.bool x) w:Result Value)=.ok (.bool y) w:=fun x y h=>by rw[h]
 apply hb
 unfold ziD;rw[Bool.eq_iff_iff];simp only[Bool.and_eq_true,decide_eq_true_eq,beq_iff_eq,and_assoc,and_true]
section
attribute [local go_sem ↓ high] zew zgx
attribute [local go_sem] zbG zal zai zaw zao zas zan zaa zbU zaC zaE zbk zbW zbX zbK zbL zbg zbb zbM zbs zbl
def zeF(e f:En)(l1 l2:List Int)(g1 g2:List Gr):Bool :=
 (e.kind==f.kind)&&(e.name.toList==f.name.toList)&&ziD e f&&decide (l1=l2)&&(e.used==f.used)&&(e.lim==f.lim)&&(e.last==f.last)&&(e.em==f.em)&&(e.owner.toList==f.owner.toList)&&(e.target.toList==f.target.toList)&&(e.cat==f.cat)&&(e.lev==f.lev)&&decide (g1=g2)
theorem zlH(e f:En)(al1 gr1 al2 gr2:Value)(li lg:Bool)(w:World)(hi:∀ W,Below w.heap.size w W->Calls Tryz.prog 40 #[al1,al2] W fun r w'=>r=.returned (.bool li)∧Below W.heap.size W w')(hg:∀ W,Below w.heap.size w W->Calls Tryz.prog 41 #[gr1,gr2] W fun r w'=>r=.returned (.bool lg)∧Below W.heap.size W w') :
  Calls Tryz.prog 15 #[.agg (e.vals al1 gr1),.agg (f.vals al2 gr2)] w fun r w'=>r=.returned (.bool ((e.kind==f.kind)&&(e.name.toList==f.name.toList)&&ziD e f&&li&&(e.used==f.used)&&(e.lim==f.lim)&&(e.last==f.last)&&(e.em==f.em)&&(e.owner.toList==f.owner.toList)&&(e.target.toList==f.target.toList)&&(e.cat==f.cat)&&(e.lev==f.lev)&&lg))∧Below w.heap.size w w':=by
 obtain⟨t0,E0⟩:∃ t,(e.kind==f.kind)=t:=⟨_,rfl⟩;obtain⟨t1,E1⟩:∃ t,(e.name.toList==f.name.toList)=t:=⟨_,rfl⟩;obtain⟨t2,E2⟩:∃ t,ziD e f=t:=⟨_,rfl⟩;obtain⟨t4,E4⟩:∃ t,(e.used==f.used)=t:=⟨_,rfl⟩;obtain⟨t5,E5⟩:∃ t,(e.lim==f.lim)=t:=⟨_,rfl⟩;obtain⟨t6,E6⟩:∃ t,(e.last==f.last)=t:=⟨_,rfl⟩;obtain⟨t7,E7⟩:∃ t,(e.em==f.em)=t:=⟨_,rfl⟩;obtain⟨t8,E8⟩:∃ t,(e.owner.toList==f.owner.toList)=t:=⟨_,rfl⟩;obtain⟨t9,E9⟩:∃ t,(e.target.toList==f.target.toList)=t:=⟨_,rfl⟩;obtain⟨t10,E10⟩:∃ t,(e.cat==f.cat)=t:=⟨_,rfl⟩;obtain⟨t11,E11⟩:∃ t,(e.lev==f.lev)=t:=⟨_,rfl⟩;rw[E0,E1,E2,E4,E5,E6,E7,E8,E9,E10,E11];obtain⟨q,hq⟩:∃ q,(t0&&t1&&t2&&li&&t4&&t5&&t6&&t7&&t8&&t9&&t10&&t11&&lg)=q:=⟨_,rfl⟩;rw[hq];have HQ:=lh hq;clear hq;have B:=Below.refl w.heap.size w;cases t0;rotate_left;cases t1;rotate_left;cases t2;rotate_left;cases li;rotate_left;cases t4;rotate_left;cases t5;rotate_left;cases t6;rotate_left;cases t7;rotate_left;cases t8;rotate_left;cases t9;rotate_left;cases t10;rotate_left;cases t11;rotate_left;cases lg
 all_goals
  go_enter Tryz.func15,Tryz.ntmps15
  simp only[List.append_eq,List.cons_append,List.nil_append]
  go_wp2_with (first|(go_at_call 40;(with_reducible refine (hi _ (by exact zbo)).mono ?_);rintro _ w1 ⟨rfl,hb⟩;obtain⟨hc1,hf1⟩:=bcell hb;have B:=Below.trans (show Below w.heap.size w _ by exact zbo) (hb.mono (by simp;omega)))|(go_at_call 41;(with_reducible refine (hg _ B).mono ?_);rintro _ w2 ⟨rfl,hb2⟩;have B:=bt B hb2))
  go_ret
  exact⟨by rw[<-HQ.out];rfl,by first|exact B|exact zbo⟩
theorem zer(e f:En)(al1 gr1 al2 gr2:Value)(l1 l2:List Int)(g1 g2:List Gr)(w:World)(h1:IS w al1 l1)(h2:IS w al2 l2)(h3:GS w gr1 g1)(h4:GS w gr2 g2) :
  Calls Tryz.prog 15 #[.agg (e.vals al1 gr1),.agg (f.vals al2 gr2)] w fun r w'=>r=.returned (.bool (zeF e f l1 l2 g1 g2))∧Below w.heap.size w w' :=
 zlH e f al1 gr1 al2 gr2 _ _ w (fun W b=>zov al1 al2 l1 l2 W (h1.below b) (h2.below b)) (fun W b=>zoq gr1 gr2 g1 g2 W (h3.below b) (h4.below b))
end
section
attribute [local go_sem ↓ high] zew zgx
attribute [local go_sem] zbG zal zai zaw zao zas zan zaa zbU zaC zaE zbk zbW zbX zbK zbL zbg zbb zbM zbs zbl
theorem GS.at{w:World}{a:Option Addr}{n c:Nat}{l:List Gr}(h:GS w (.slice a n c) l)(h0:0<l.length):∃ b o,a=some ⟨b,o,none⟩∧∀ k (h:k<l.length),w.cell? ⟨b,o+k*3,none⟩=some (.string l[k].1)∧w.cell? ⟨b,o+k*3+1,none⟩=some (.bool l[k].2.1)∧w.cell? ⟨b,o+k*3+2,none⟩=some (.int .i64 l[k].2.2):=by
 obtain⟨a',c',e,-,h⟩:=h;obtain⟨rfl,-,rfl⟩:a=a'∧n=l.length∧c=c':=by simpa using e
 obtain⟨b,o,h1,-,h2⟩:=h h0;exact⟨b,o,h1,h2⟩
end
section
attribute [local go_sem ↓ high] zew zgx
attribute [local go_sem] zbG zal zai zaw zao zas zan zaa zbU zaC zaE zbk zbW zbX zbK zbL zbg zbb zbM zbs zbl
end
end Go.Proofs.YtefcmdmfgdcpmaaGreatDoor
