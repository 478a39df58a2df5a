/- The walk of CatalogAdds: Add and Replace return the changes of the reference. -/
import Derived.Test.YtkafnmbldpofdaaGreatDoorCu
import Derived.Test.YtkafnmbldpofdaaGreatDoorYr
import Derived.Test.YtkafnmbldpofdaaGreatDoorReb
import Derived.Test.YtkafnmbldpofdaaGreatDoorSaC
import Derived.Test.YtkafnmbldpofdaaGreatDoorEn
import Derived.Test.YtkafnmbldpofdaaGreatDoorFrameEs
import Derived.Test.YtkafnmbldpofdaaGreatDoorChA
import Derived.Test.YtkafnmbldpofdaaGreatDoorRtF
import Derived.Test.YtkafnmbldpofdaaGreatDoorNo
namespace Go.Proofs.YtkafnmbldpofdaaGreatDoor
section
set_option maxHeartbeats 4000000
set_option maxRecDepth 8000
def pmB:ByteArray:=⟨#[80,65,89,46,77,65,83,84,69,82]⟩
def payB:ByteArray:=⟨#[80,65,89]⟩
def poB:ByteArray:=⟨#[80,65,89,46,79,76,68]⟩
def e35:En:={ En.zero with kind:=0,name:=pmB,d0:=130 }
def m35:Fu:=(e35,[],[])
def f35:En:={ En.zero with kind:=2,name:=payB,target:=pmB }
def a35:Fu:=(f35,[],[])
theorem ok_m35:okX m35=true:=by
 unfold okX
 rw[if_pos (show m35.1.kind=0 from rfl)]
 unfold okD
 rw[show sameE (onlyD m35.1) m35.1 m35.2.1 m35.2.1 [] m35.2.2=true from (sameE_eq _ _ _ _ _ _).2 ⟨by unfold onlyD m35 e35;rfl,rfl,rfl⟩]
 decide +kernel
theorem ok_a35:okX a35=true:=by
 unfold okX
 rw[if_neg (show ¬ a35.1.kind=0 by decide),if_neg (show ¬ a35.1.kind=1 by decide),if_pos (show a35.1.kind=2 from rfl)]
 unfold okA
 rw[show sameE (onlyA a35.1) a35.1 [] a35.2.1 [] a35.2.2=true from (sameE_eq _ _ _ _ _ _).2 ⟨by unfold onlyA a35 f35;rfl,rfl,rfl⟩]
 decide +kernel
def km:ByteArray:=keyZ 0 pmB
def ka:ByteArray:=keyZ 2 payB
theorem dec_m35:decX (Ds.bl (recZ m35))=some m35:=by
 unfold recZ
 rw[if_pos ok_m35,Ds.bl_mk]
 exact decX_rec _ ok_m35 (recX_len _ ok_m35)
theorem dec_a35:decX (Ds.bl (recZ a35))=some a35:=by
 unfold recZ
 rw[if_pos ok_a35,Ds.bl_mk]
 exact decX_rec _ ok_a35 (recX_len _ ok_a35)
theorem rd_m35:readF km (recZ m35)=(m35,0):=by
 unfold readF
 rw[dec_m35]
 exact if_pos (keyZ_bl 0 pmB).symm
theorem rd_a35:readF ka (recZ a35)=(a35,0):=by
 unfold readF
 rw[dec_a35]
 exact if_pos (keyZ_bl 2 payB).symm
def rows1:List Rw:=[(2,km,recZ m35)]
def rows2:List Rw:=[(2,ka,recZ a35),(2,km,recZ m35)]
theorem rows1_eq:apl [] [putCh 2 m35]=rows1:=rfl
theorem ka_km:¬ km=ka:=by decide +kernel
theorem key_lt:ltB (Ds.bl km) (Ds.bl ka)=false:=by decide +kernel
theorem rows2_eq:apl rows1 [putCh 2 a35]=rows2:=by
 have h1:addAll rows1=rows1:=rfl
 unfold apl
 rw[h1,List.foldl_cons,List.foldl_nil]
 unfold apS
 rw[if_pos (show (putCh 2 a35).1=0 from rfl)]
 have h2:apRest (putCh 2 a35) rows1=rows1:=by
  unfold apRest rows1
  rw[List.filter_cons_of_pos,List.filter_nil]
  show (!(decide ((2:Int)=2)&&decide (km=ka)))=true
  rw[decide_eq_false ka_km];rfl
 rw[h2]
 have h3:rows1.takeWhile (insQ (2,ka,recZ a35))=[]∧rows1.dropWhile (insQ (2,ka,recZ a35))=rows1:=by
  have:insQ (2,ka,recZ a35) (2,km,recZ m35)=false:=by
   show (decide ((2:Int)<2) || (decide ((2:Int)=2)&&ltB (Ds.bl km) (Ds.bl ka)))=false
   rw[key_lt];rfl
  unfold rows1
  constructor
  · rw[List.takeWhile_cons,if_neg (by rw[this];simp)]
  · rw[List.dropWhile_cons,if_neg (by rw[this];simp)]
 show insA (2,ka,recZ a35) rows1=rows2
 unfold insA
 rw[h3.1,h3.2]
 rfl
theorem getR_no {l:List Rw} {id kind:Int} {name:ByteArray} (h0:¬ keyZ kind name=⟨#[]⟩) (h:recA id (keyZ kind name) l=none):getR l id kind name=(zF0,6):=by
 unfold getR getF
 rw[if_neg h0,if_neg (by decide),h]
theorem getR_yes {l:List Rw} {id kind:Int} {name s:ByteArray} (h0:¬ keyZ kind name=⟨#[]⟩) (h:recA id (keyZ kind name) l=some s):getR l id kind name=readF (keyZ kind name) s:=by
 unfold getR getF
 rw[if_neg h0,if_neg (by decide),h]
theorem rec1_no {key:ByteArray} (h:¬ km=key):recA 2 key rows1=none:=by
 unfold rows1
 rw[recA,if_neg (fun k=>h k.2)];rfl
theorem rec2_no {key:ByteArray} (h:¬ km=key) (h2:¬ ka=key):recA 2 key rows2=none:=by
 unfold rows2
 rw[recA,if_neg (fun k=>h2 k.2),recA,if_neg (fun k=>h k.2)];rfl
theorem findR_3 {l:List Rw} {id:Int} {name:ByteArray} (hn:Ds.name (Ds.bl name)=true) (h0:getR l id 0 name=(zF0,6)) (h1:getR l id 1 name=(zF0,6)):findR l id name=if (getR l id 2 name).2=6 then (zF0,6) else getR l id 2 name:=by
 unfold findR
 rw[if_neg (by rw[hn];simp),findRL,h0,if_pos rfl,findRL,h1,if_pos rfl,findRL]
 rfl
theorem pay_name:Ds.name (Ds.bl payB)=true:=by decide +kernel
theorem pm_name:Ds.name (Ds.bl pmB)=true:=by decide +kernel
theorem po_name:Ds.name (Ds.bl poB)=true:=by decide +kernel
theorem pay_gen:Ds.gen (Ds.bl payB)=false:=by decide +kernel
theorem pm_gen:Ds.gen (Ds.bl pmB)=false:=by decide +kernel
theorem po_gen:Ds.gen (Ds.bl poB)=false:=by decide +kernel
theorem add_m35:addR [] 2 m35=([putCh 2 m35],0):=by
 have g:∀ k:Int,¬ keyZ k pmB=⟨#[]⟩->getR [] 2 k pmB=(zF0,6):=fun k h=>getR_no h rfl
 have hf:findR [] 2 pmB=(zF0,6):=by
  rw[findR_3 pm_name (g 0 (by decide +kernel)) (g 1 (by decide +kernel)),g 2 (by decide +kernel)];rfl
 unfold addR
 rw[if_pos ok_m35]
 have hc:addC [] 2 m35=6:=by
  unfold addC
  rw[if_neg (by decide)]
  show (findR [] 2 pmB).2=6
  rw[hf]
 rw[hc,if_neg (by decide),if_neg (fun h=>by have:=h.1.1;rw[show Ds.gen (Ds.bl m35.1.name)=false from pm_gen] at this;cases this)]
 have hl:leadsR [] 2 m35=0:=by unfold leadsR;rw[if_pos (by decide)]
 rw[hl,if_neg (fun h=>h rfl)]
theorem find_pm1:findR rows1 2 pmB=(m35,0):=by
 have h:getR rows1 2 0 pmB=(m35,0):=by
  rw[getR_yes (s:=recZ m35) (by decide +kernel) (by unfold rows1;rw[recA];exact if_pos ⟨rfl,rfl⟩)]
  exact rd_m35
 unfold findR
 rw[if_neg (by rw[pm_name];simp),findRL,h,if_neg (by decide)]
theorem add_a35:addR rows1 2 a35=([putCh 2 a35],0):=by
 have g:∀ k:Int,¬ keyZ k payB=⟨#[]⟩->¬ km=keyZ k payB->getR rows1 2 k payB=(zF0,6):=fun k h h2=>getR_no h (rec1_no h2)
 have hf:findR rows1 2 payB=(zF0,6):=by
  rw[findR_3 pay_name (g 0 (by decide +kernel) (by decide +kernel)) (g 1 (by decide +kernel) (by decide +kernel)),g 2 (by decide +kernel) (by decide +kernel)];rfl
 unfold addR
 rw[if_pos ok_a35]
 have hc:addC rows1 2 a35=6:=by
  unfold addC
  rw[if_neg (by decide)]
  show (findR rows1 2 payB).2=6
  rw[hf]
 rw[hc,if_neg (by decide),if_neg (fun h=>by have:=h.1.1;rw[show Ds.gen (Ds.bl a35.1.name)=false from pay_gen] at this;cases this)]
 have hl:leadsR rows1 2 a35=0:=by
  unfold leadsR
  rw[if_neg (by decide)]
  show (match findR rows1 2 pmB with | (y,c)=>if c≠0 then c else if Ds.gen (Ds.bl y.1.name)=true∨y.1.kind=2 then 7 else 0)=0
  rw[find_pm1]
  show (if Ds.gen (Ds.bl pmB)=true∨(0:Int)=2 then (7:Int) else 0)=0
  rw[pm_gen];decide
 rw[hl,if_neg (fun h=>h rfl)]
theorem find_pay2:findR rows2 2 payB=(a35,0):=by
 have g:∀ k:Int,¬ keyZ k payB=⟨#[]⟩->¬ km=keyZ k payB->¬ ka=keyZ k payB->getR rows2 2 k payB=(zF0,6):=fun k h h2 h3=>getR_no h (rec2_no h2 h3)
 have h2:getR rows2 2 2 payB=(a35,0):=by
  rw[getR_yes (s:=recZ a35) (by decide +kernel) (by unfold rows2;rw[recA];exact if_pos ⟨rfl,rfl⟩)]
  exact rd_a35
 rw[findR_3 pay_name (g 0 (by decide +kernel) (by decide +kernel) (by decide +kernel)) (g 1 (by decide +kernel) (by decide +kernel) (by decide +kernel)),h2];rfl
theorem get_pm2:getR rows2 2 0 pmB=(m35,0):=by
 rw[getR_yes (s:=recZ m35) (by decide +kernel) (by
  unfold rows2
  rw[recA,if_neg (fun k=>ka_km k.2.symm),recA]
  exact if_pos ⟨rfl,rfl⟩)]
 exact rd_m35
theorem find_po2:findR rows2 2 poB=(zF0,6):=by
 have g:∀ k:Int,¬ keyZ k poB=⟨#[]⟩->¬ km=keyZ k poB->¬ ka=keyZ k poB->getR rows2 2 k poB=(zF0,6):=fun k h h2 h3=>getR_no h (rec2_no h2 h3)
 rw[findR_3 po_name (g 0 (by decide +kernel) (by decide +kernel) (by decide +kernel)) (g 1 (by decide +kernel) (by decide +kernel) (by decide +kernel)),g 2 (by decide +kernel) (by decide +kernel) (by decide +kernel)];rfl
theorem nx2a (R1 R2:ByteArray):nx 2 [(65:UInt8) - 1,255] [(2,ka,R1),(2,km,R2)]=some (2,ka,R1):=by rfl
theorem nx2b (R1 R2:ByteArray):nx 2 (Ds.bl ka) [(2,ka,R1),(2,km,R2)]=some (2,km,R2):=by rfl
theorem ali2 (c:Int) (h:0<=c):aliF rows2 0 0 c 2 pmB=(([a35],0),c+1+1):=by
 have e1:recS rows2 2 0 0 65 (aliS pmB) (rows2.length+1) c [(65:UInt8) - 1,255] []=(.ok ([a35],0),c+1+1):=by
  show recS rows2 2 0 0 65 (aliS pmB) (1+1+1) c [(65:UInt8) - 1,255] []=_
  have s1:aliS pmB [] ka (recZ a35)=.ok [a35]:=by
   unfold aliS
   rw[rd_a35,if_neg (fun h=>h rfl)]
   exact if_pos rfl
  have n1:=nx2a (recZ a35) (recZ m35)
  have n2:=nx2b (recZ a35) (recZ m35)
  change nx 2 _ rows2=_ at n1
  change nx 2 _ rows2=_ at n2
  rw[recS,if_neg (by omega),n1]
  show (if (65:UInt8)<(Ds.bl ka).headD 0 then _ else if (Ds.bl ka).headD 0<(65:UInt8) then _ else _)=_
  rw[if_neg (by decide +kernel),if_neg (by decide +kernel),s1]
  show recS rows2 2 0 0 65 (aliS pmB) (1+1) (c+1) (Ds.bl ka) [a35]=_
  rw[recS,if_neg (by omega),n2]
  show (if (65:UInt8)<(Ds.bl km).headD 0 then _ else _)=_
  rw[if_pos (by decide +kernel)]
 unfold aliF
 rw[e1]
 show (if (0:Int)≠0 then (([]:List Fu),(0:Int)) else ([a35],0),c+1+1)=_
 rw[if_neg (fun h=>h rfl)]
end
section
open Go.RowKit
set_option maxHeartbeats 16000000
set_option maxRecDepth 8000
set_option linter.unusedSimpArgs false
theorem sh35 (a:Option Addr) (n c:Nat) (w:World):Calls Tryz.prog 12 #[.slice a n c] w fun r w'=>r=.returned (.pointer (some ⟨w.heap.size,0,none⟩))∧w.alloc (.cells #[.slice a n c,.int .i64 0,.int .i64 0,.int .i64 0] 69)=w':=by
 go_enter Tryz.func12,Tryz.ntmps12
 go_wp2_with fail
 go_ret
 exact⟨rfl,rfl⟩
theorem shelf_newC (sv:Value) (l:List Rw) (w:World) (hr:RwS w sv l) (ho:∀ b,sv.ownBlock=some b->b<w.heap.size):SHs w (w.alloc (.cells #[sv,.int .i64 0,.int .i64 0,.int .i64 0] 69)) w.heap.size sv l 0 0 0:=by
 refine⟨⟨row_new _ _ _ _,fun o=>by simp⟩,hr.below ((Below.refl _ _).alloc (Nat.le_refl _) _),fun b hb e=>?_,Nat.le_refl _,by simp,(Below.refl _ _).alloc (Nat.le_refl _) _⟩
 have:=ho b hb
 omega
theorem rws_nil (w:World):RwS w (.slice none 0 0) []:=⟨none,0,rfl,by simp,fun h=>by simp at h⟩
theorem e35_lit:e35.vals (.slice none 0 0) (.slice none 0 0)=#[.int .i64 0,.string ⟨#[80,65,89,46,77,65,83,84,69,82]⟩,.int .i64 130,.int .i64 0,.int .i64 0,.int .i64 0,.int .i64 0,.int .i64 0,.int .i64 0,.int .i64 0,.int .i64 0,.int .i64 0,.int .i64 0,.int .i64 0,.int .i64 0,.int .i64 0,.bool false,.int .i64 0,.string ⟨#[]⟩,.string ⟨#[]⟩,.int .i64 0,.int .i64 0,.bool false,.slice none 0 0,.int .i64 0,.int .i64 0,.int .i64 0,.bool false,.string ⟨#[]⟩,.string ⟨#[]⟩,.int .i64 0,.int .i64 0,.slice none 0 0]:=by unfold e35 En.vals;rfl
theorem f35_lit:f35.vals (.slice none 0 0) (.slice none 0 0)=#[.int .i64 2,.string ⟨#[80,65,89]⟩,.int .i64 0,.int .i64 0,.int .i64 0,.int .i64 0,.int .i64 0,.int .i64 0,.int .i64 0,.int .i64 0,.int .i64 0,.int .i64 0,.int .i64 0,.int .i64 0,.int .i64 0,.int .i64 0,.bool false,.int .i64 0,.string ⟨#[]⟩,.string ⟨#[]⟩,.int .i64 0,.int .i64 0,.bool false,.slice none 0 0,.int .i64 0,.int .i64 0,.int .i64 0,.bool false,.string ⟨#[]⟩,.string ⟨#[80,65,89,46,77,65,83,84,69,82]⟩,.int .i64 0,.int .i64 0,.slice none 0 0]:=by unfold f35 En.vals;rfl
theorem aw_add1 (w:World) (hm:MaxL w) (hT:Tab w):Calls Tryz.prog 11 #[.iface 37 (.pointer (some ⟨w.heap.size,0,none⟩)),.int .i64 2,.agg (e35.vals (.slice none 0 0) (.slice none 0 0))] (w.alloc (.cells #[.slice none 0 0,.int .i64 0,.int .i64 0,.int .i64 0] 69)) fun r w'=>∃ a c,r=.returned (.tuple #[.slice a 1 c,.int .i64 0])∧ChS w' (.slice a 1 c) [putCh 2 m35]∧Below w.heap.size w w':=by
 refine (ca_add w.heap.size (.slice none 0 0) [] 0 0 0 2 m35 (.slice none 0 0) (.slice none 0 0) w _ hm hT (shelf_newC _ _ w (rws_nil w) (fun _ h=>by cases h)) (Int.le_refl _) (by decide) (.inr (Int.le_refl _)) (Nat.le_of_ble_eq_true rfl) (IS.nil _) (GS.nil _) (fun _ _ h=>by cases h) (fun _ _ h=>by cases h)).mono ?_
 rintro _ w' ⟨ov,rfl,hc,hs,-⟩
 have e:=addF_no [] 0 0 0 2 m35 (Int.le_refl _) (Int.le_refl _)
 rw[e,add_m35] at hc ⊢
 obtain⟨a,c,rfl,-⟩:=_root_.id hc
 exact⟨a,c,rfl,hc,hs.b⟩
theorem aw_add2 (sv:Value) (w:World) (hm:MaxL w) (hT:Tab w) (hr:RwS w sv rows1) (ho:∀ b,sv.ownBlock=some b->b<w.heap.size):Calls Tryz.prog 11 #[.iface 37 (.pointer (some ⟨w.heap.size,0,none⟩)),.int .i64 2,.agg (f35.vals (.slice none 0 0) (.slice none 0 0))] (w.alloc (.cells #[sv,.int .i64 0,.int .i64 0,.int .i64 0] 69)) fun r w'=>∃ a c,r=.returned (.tuple #[.slice a 1 c,.int .i64 0])∧ChS w' (.slice a 1 c) [putCh 2 a35]∧Below w.heap.size w w':=by
 refine (ca_add w.heap.size sv rows1 0 0 0 2 a35 (.slice none 0 0) (.slice none 0 0) w _ hm hT (shelf_newC _ _ w hr ho) (Int.le_refl _) (by decide) (.inr (Int.le_refl _)) (Nat.le_of_ble_eq_true rfl) (IS.nil _) (GS.nil _) (fun _ _ h=>by cases h) (fun _ _ h=>by cases h)).mono ?_
 rintro _ w' ⟨ov,rfl,hc,hs,-⟩
 have e:=addF_no rows1 0 0 0 2 a35 (Int.le_refl _) (Int.le_refl _)
 rw[e,add_a35] at hc ⊢
 obtain⟨a,c,rfl,-⟩:=_root_.id hc
 exact⟨a,c,rfl,hc,hs.b⟩
theorem aw_find (sv:Value) (w:World) (hm:MaxL w) (hT:Tab w) (hr:RwS w sv rows2) (ho:∀ b,sv.ownBlock=some b->b<w.heap.size):Calls Tryz.prog 16 #[.iface 37 (.pointer (some ⟨w.heap.size,0,none⟩)),.int .i64 2,.string ⟨#[80,65,89]⟩] (w.alloc (.cells #[sv,.int .i64 0,.int .i64 0,.int .i64 0] 69)) fun r w'=>∃ al gr,r=.returned (.tuple #[.agg (f35.vals al gr),.int .i64 0])∧allOne (f35.vals al gr).toList=true∧Below w.heap.size w w':=by
 refine (cat_find w.heap.size sv rows2 0 0 0 2 payB w _ hm hT (shelf_newC _ _ w hr ho) (Int.le_refl _) (by decide) (.inr (Int.le_refl _))).mono ?_
 rintro _ w' ⟨h,hs,-⟩
 have e:=findF_no rows2 0 0 0 2 payB (Int.le_refl _) (Int.le_refl _)
 rw[e,find_pay2] at h
 obtain⟨al,gr,rfl,hI,hG,-,-⟩:=h
 exact⟨al,gr,rfl,vals_one _ _ _ (is_one hI) (gs_one hG),hs.b⟩
theorem ren_35:(renF rows2 0 0 0 2 pmB poB).1=(renL 2 m35 poB [a35],0):=by
 unfold renF
 rw[if_neg (by rw[po_name];simp)]
 have e1:=getF_no rows2 0 0 0 2 0 pmB (Int.le_refl _) (Int.le_refl _)
 have c1:=getF_ca rows2 0 0 0 2 0 pmB
 rw[get_pm2] at e1
 generalize getF rows2 0 0 0 2 0 pmB=g at e1 c1
 obtain⟨g1,cb⟩:=g
 dsimp only at e1 c1 ⊢
 subst e1
 rw[if_neg (fun h=>h rfl),if_neg (by rw[pm_gen,po_gen];simp)]
 have e2:=findF_no rows2 0 0 cb 2 poB (Int.le_refl _) c1.1
 have c2:=findF_ca rows2 0 0 cb 2 poB
 rw[find_po2] at e2
 generalize findF rows2 0 0 cb 2 poB=g at e2 c2
 obtain⟨g2,cc⟩:=g
 dsimp only at e2 c2 ⊢
 subst e2
 rw[if_neg (show ¬ absC 6≠0 by decide),ali2 cc (by omega),if_neg (fun h=>h rfl)]
theorem aw_ren (sv:Value) (w:World) (hm:MaxL w) (hT:Tab w) (hr:RwS w sv rows2) (ho:∀ b,sv.ownBlock=some b->b<w.heap.size):Calls Tryz.prog 31 #[.iface 37 (.pointer (some ⟨w.heap.size,0,none⟩)),.int .i64 2,.string ⟨#[80,65,89,46,77,65,83,84,69,82]⟩,.string ⟨#[80,65,89,46,79,76,68]⟩] (w.alloc (.cells #[sv,.int .i64 0,.int .i64 0,.int .i64 0] 69)) fun r w'=>∃ b o c,r=.returned (.tuple #[.slice (some ⟨b,o,none⟩) 3 c,.int .i64 0])∧w'.cell? ⟨b,o,none⟩=some (.int .i64 1)∧Below w.heap.size w w':=by
 refine (ca_rename w.heap.size sv rows2 0 0 0 2 pmB poB w _ hm hT (shelf_newC _ _ w hr ho) (fun b hb=>by have:=ho b hb;simp;omega) (by decide) (Int.le_refl _) (by decide) (.inr (Int.le_refl _)) (by decide) (by decide)).mono ?_
 rintro _ w' ⟨ov,rfl,hc,hs,-⟩
 rw[ren_35] at hc ⊢
 obtain⟨a,c,rfl,-,hcc⟩:=hc
 obtain⟨b,o,rfl,hb,hat⟩:=hcc (by show 0<3;omega)
 exact⟨b,o,c,rfl,hat 0 (by show 0<3;omega) 0 _ rfl,hs.b⟩
theorem aw_app1 (a:Option Addr) (c:Nat) (w:World) (hC:ChS w (.slice a 1 c) [putCh 2 m35]):Calls Tryz.prog 13 #[.slice none 0 0,.slice a 1 c] w fun r w'=>∃ a' n' c',r=.returned (.slice a' n' c')∧RwS w' (.slice a' n' c') rows1∧(∀ q,(Value.slice a' n' c').ownBlock=some q->q<w'.heap.size)∧Below w.heap.size w w':=by
 refine (r35_apply (.slice none 0 0) [] (.slice a 1 c) [putCh 2 m35] w (rws_nil w) hC (by decide) (by decide)).mono ?_
 rintro _ w' ⟨v',rfl,hr,ho,hb⟩
 rw[rows1_eq] at hr
 obtain⟨a',c',rfl,-⟩:=_root_.id hr
 exact⟨_,_,_,rfl,hr,fun q hq=>(ho q hq).2,hb⟩
theorem aw_app2 (v:Value) (a:Option Addr) (c:Nat) (w:World) (hR:RwS w v rows1) (hC:ChS w (.slice a 1 c) [putCh 2 a35]):Calls Tryz.prog 13 #[v,.slice a 1 c] w fun r w'=>∃ a' n' c',r=.returned (.slice a' n' c')∧RwS w' (.slice a' n' c') rows2∧(∀ q,(Value.slice a' n' c').ownBlock=some q->q<w'.heap.size)∧Below w.heap.size w w':=by
 refine (r35_apply v rows1 (.slice a 1 c) [putCh 2 a35] w hR hC (by decide) (by decide)).mono ?_
 rintro _ w' ⟨v',rfl,hr,ho,hb⟩
 rw[rows2_eq] at hr
 obtain⟨a',c',rfl,-⟩:=_root_.id hr
 exact⟨_,_,_,rfl,hr,fun q hq=>(ho q hq).2,hb⟩
attribute [local go_sem ↓] ldEnt stEnt stEntRow bldEnt
attribute [local go_sem] Held_drew isHead_mk headOf_mk offOf_mk isPtr_mk cellsOfV_mk isAggV_mk row_new row_new2 row_new2' row_drew row_drewN vals_size allOne_nil allOne_cons one_int one_bool one_string one_pointer one_slice one_func
theorem aw35 (w:World) (hm:MaxL w) (hT:Tab w):Calls Tryz.prog 8 #[] w fun r w'=>r=.returned (.bool true)∧Below w.heap.size w w':=by
 obtain⟨cm,hcm⟩:∃ c,e35.vals (.slice none 0 0) (.slice none 0 0)=c:=⟨_,rfl⟩
 obtain⟨cf,hcf⟩:∃ c,f35.vals (.slice none 0 0) (.slice none 0 0)=c:=⟨_,rfl⟩
 have HA1:=Lib.hid (fun W (b:Below w.heap.size w W)=>aw_add1 W (hm.below b) (hT.below b))
 have HA2:=Lib.hid (fun sv W (b:Below w.heap.size w W)=>aw_add2 sv W (hm.below b) (hT.below b))
 have HF:=Lib.hid (fun sv W (b:Below w.heap.size w W)=>aw_find sv W (hm.below b) (hT.below b))
 have HR:=Lib.hid (fun sv W (b:Below w.heap.size w W)=>aw_ren sv W (hm.below b) (hT.below b))
 rw[hcm] at HA1
 rw[hcf] at HA2
 have lm:=hcm.symm.trans e35_lit
 have lf:=hcf.symm.trans f35_lit
 have sm:cm.size=33:=by rw[lm];rfl
 have sf:cf.size=33:=by rw[lf];rfl
 have om:allOne cm.toList=true:=by rw[lm];rfl
 have of:allOne cf.toList=true:=by rw[lf];rfl
 clear hcm hcf hm hT
 go_enter Tryz.func8,Tryz.ntmps8
 go_upto_region 3 with fail
 rw[<-lm,<-lf]
 clear lm lf
 have R1:=row_new2 w cm 32 (0,0) (.cells cf 32)
 have R2:=row_new2' w cf 32 (0,0) (.cells cm 32)
 have B0:Below w.heap.size w ((w.alloc (.cells cm 32)).alloc (.cells cf 32)):=below2' _ _ _
 generalize (w.alloc (.cells cm 32)).alloc (.cells cf 32)=W2 at R1 R2 B0 ⊢
 refine wp_region_held_drew (S:=fun w'=>row w' w.heap.size=cm) (by kernel_rfl) R1 (fun hHeld=>?_)
 (refine rg_y (i:=2) (some 18) (v:=.agg (cm)) rfl rfl (by kernel_rfl) (by kernel_rfl) (by kernel_rfl) (fun _ _ _ h=>h) (by kernel_rfl) (fun wS hSw=>?_) (by assumption) ?_;focus (exact (ldEnt _ wS _ _ _ _ _ _ rfl (by show (row wS (w.heap.size)).size=33;rw[hSw];exact sm)).trans (by show Result.ok (Next.value (.agg (row wS (w.heap.size)))) wS=_;rw[hSw]));(try simp only[Act.put,pz]))
 refine rgb (i:=0) (by kernel_rfl) rfl (fun K hK=>?_)
 go_simp
 go_at_call 12
 refine (sh35 _ _ _ _).mono ?_
 rintro _ _ ⟨rfl,rfl⟩
 refine hK.out _ _ (row_below (below_al' W2.drew _) R1 (by rw[sm];decide)) (fun hHeld=>?_)
 (clear hK K;(try simp only[Act.put,pz]))
 (refine rgy (i:=1) (some 17) ?_;(try simp only[Act.put,pz]))
 refine rgb (i:=3) (by kernel_rfl) rfl (fun K hK=>?_)
 go_simp
 go_at_call 11
 refine (HA1.out W2.drew B0.drew).mono ?_
 rintro _ w3 ⟨ca1,cc1,rfl,hc1,hb1⟩
 have b3:Below W2.heap.size W2 w3:=(Below.refl W2.heap.size W2).drew.trans hb1
 have R13:=row_below b3 R1 (by rw[sm];decide)
 have R23:=row_below b3 R2 (by rw[sf];decide)
 refine hK.out _ _ R13 (fun hHeld=>?_)
 (clear hK K;(try simp only[Act.put,pz]))
 (refine rgy (i:=4) (some 15) ?_;(try simp only[Act.put,pz]))
 (refine rgy (i:=5) (some 20) ?_;(try simp only[Act.put,pz]))
 (refine rgy (i:=6) (some 21) ?_;(try simp only[Act.put,pz]))
 (refine rgy (i:=7) (some 3) ?_;(try simp only[Act.put,pz]))
 (refine rgy (i:=8) (some 4) ?_;(try simp only[Act.put,pz]))
 refine wpAnyH_done (by kernel_rfl) ?_ _
 have B3:=Lib.hid (bt B0 b3)
 have C3:=Lib.hid hc1
 clear hc1 hb1 b3 hHeld R1 R2 B0
 go_upto_region 5 with (go_at_call 13;(refine (aw_app1 _ _ _ C3.out).mono ?_);rintro _ w4 ⟨a4,n4,c4,rfl,hr4,ho4,hb4⟩;have R24:=row_below hb4 R23 (by rw[sf];decide);have B4:=bt B3.out hb4;have SR4:=Lib.hid hr4;have HO4:=Lib.hid ho4;clear hr4 ho4 hb4)
 refine wp_region_held_drew (S:=fun w'=>row w' (w.heap.size+1)=cf) (by kernel_rfl) R24 (fun hHeld=>?_)
 (refine rgy (i:=0) (some 25) ?_;(try simp only[Act.put,pz]))
 (refine rg_y (i:=3) (some 28) (v:=.agg (cf)) rfl rfl (by kernel_rfl) (by kernel_rfl) (by kernel_rfl) (fun _ _ _ h=>h) (by kernel_rfl) (fun wS hSw=>?_) (by assumption) ?_;focus (exact (ldEnt _ wS _ _ _ _ _ _ rfl (by show (row wS (w.heap.size+1)).size=33;rw[hSw];exact sf)).trans (by show Result.ok (Next.value (.agg (row wS (w.heap.size+1)))) wS=_;rw[hSw]));(try simp only[Act.put,pz]))
 refine rgb (i:=1) (by kernel_rfl) rfl (fun K hK=>?_)
 go_simp
 go_at_call 12
 refine (sh35 _ _ _ _).mono ?_
 rintro _ _ ⟨rfl,rfl⟩
 refine hK.out _ _ (row_below (below_al' w4.drew _) R24 (by rw[sf];decide)) (fun hHeld=>?_)
 (clear hK K;(try simp only[Act.put,pz]))
 (refine rgy (i:=2) (some 27) ?_;(try simp only[Act.put,pz]))
 refine rgb (i:=4) (by kernel_rfl) rfl (fun K hK=>?_)
 go_simp
 go_at_call 11
 refine (HA2.out _ w4.drew B4.drew (SR4.out.below (Below.refl _ _).drew) HO4.out).mono ?_
 rintro _ w5 ⟨ca2,cc2,rfl,hc2,hb2⟩
 have b5:Below w4.heap.size w4 w5:=(Below.refl w4.heap.size w4).drew.trans hb2
 refine hK.out _ _ (row_below b5 R24 (by rw[sf];decide)) (fun hHeld=>?_)
 (clear hK K;(try simp only[Act.put,pz]))
 (refine rgy (i:=5) (some 24) ?_;(try simp only[Act.put,pz]))
 (refine rgy (i:=6) (some 30) ?_;(try simp only[Act.put,pz]))
 (refine rgy (i:=7) (some 31) ?_;(try simp only[Act.put,pz]))
 (refine rgy (i:=8) (some 6) ?_;(try simp only[Act.put,pz]))
 (refine rgy (i:=9) (some 7) ?_;(try simp only[Act.put,pz]))
 refine wpAnyH_done (by kernel_rfl) ?_ _
 have B5:=bt B4 b5
 have C5:=Lib.hid hc2
 have SR5:=Lib.hid (SR4.out.below b5)
 clear hc2 hb2 b5 hHeld R24 R23 R13 B4 SR4 HO4 B3 C3
 go_wp2_with (first
  | (go_at_call 13;(refine (aw_app2 _ _ _ _ SR5.out C5.out).mono ?_);rintro _ w6 ⟨a6,n6,c6,rfl,hr6,ho6,hb6⟩;have B6:=bt B5 hb6;have SR6:=Lib.hid hr6;have HO6:=Lib.hid ho6;clear hr6 ho6 hb6)
  | (go_at_call 12;(with_reducible refine (sh35 _ _ _ _).mono ?_);rintro _ _ ⟨rfl,rfl⟩)
  | (go_at_call 16;(refine (HF.out _ w6 B6 SR6.out HO6.out).mono ?_);rintro _ w7 ⟨al7,gr7,rfl,hone7,hb7⟩;have N7:(w7.alloc (.cells (f35.vals al7 gr7) 32)).cell? ⟨w7.heap.size,29,none⟩=some (.string ⟨#[80,65,89,46,77,65,83,84,69,82]⟩):=cell_row (row_new w7 (f35.vals al7 gr7) 32 (0,0)) 29 _ (vals_29 f35 al7 gr7);have b7:=bt hb7 (below_al' w7 (.cells (f35.vals al7 gr7) 32));have B7:=bt B6 b7;have SR7:=Lib.hid (SR6.out.below b7);have HO7:=Lib.hid (fun q hq=>Nat.lt_of_lt_of_le (HO6.out q hq) b7.size);have hr7:=HR.out _ (w7.alloc (.cells (f35.vals al7 gr7) 32)) B7 SR7.out HO7.out;rw[World.size_alloc] at hr7;have HR7:=Lib.hid hr7;clear hb7 b7 hr7)
  | (go_at_call 31;(refine HR7.out.mono ?_);rintro _ w8 ⟨b8,o8,c8,rfl,h8,hb8⟩;have N8:=(hb8.cell (p:=⟨w7.heap.size,29,none⟩) (by show w7.heap.size<w7.heap.size+1;omega)).trans N7;have B8:=Below.trans B7 (hb8.mono (by have:=B7.size;simp at this;omega));clear hb8 N7))
 go_ret
 exact⟨rfl,B8⟩
end
section
open Go.RowKit
set_option maxHeartbeats 8000000
set_option maxRecDepth 8000
attribute [local go_sem] vals_0 vals_1 vals_18 vals_19 vals_23 vals_28 vals_29 vals_32
def GR (w:World) (a:Option Addr) (n:Nat):Prop:=n<=9223372036854775807∧∀ k,k<n->∃ (b o:Nat) (g:Gr),a=some ⟨b,o,none⟩∧b<w.heap.size∧w.cell? ⟨b,o+k*3,none⟩=some (.string g.1)∧w.cell? ⟨b,o+k*3+1,none⟩=some (.bool g.2.1)∧w.cell? ⟨b,o+k*3+2,none⟩=some (.int .i64 g.2.2)
def fewP (e:En) (n1 n2:Nat):Prop:=e.name.size<=60∧n1<=8∧n2<=12
def FewR (e:En) (n1 n2:Nat) (w w':World) (r:Ending):Prop:=∃ b:Bool,r=.returned (.bool b)∧(b=true->fewP e n1 n2)∧Below w.heap.size w w'
theorem FewR.no {e:En} {n1 n2:Nat} {w w':World} (h:Below w.heap.size w w'):FewR e n1 n2 w w' (.returned (.bool false)):=⟨false,rfl,(fun h=>by cases h),h⟩
end
section
open Go.ChangeShapes Go.WideShapes Go.RowKit
set_option maxRecDepth 100000
theorem open_isliceN {H:Type} {enc:TypeId × Value->H} {W:World} {fuel:Nat} {v:Value} {x:DataW H × List MemPlace} (h:DataW.trod enc Tryz.prog W 0 (fun _=>true) true fuel 29 [v]=some x) :
  ∃ (a:Option Addr) (n c:Nat),v=.slice a n c∧(n<=1000->∃ l:List Int,l.length=n∧IS W v l):=by
 rcases open_ints Tryz.underlying29 Tryz.underlying3 (by kernel_rfl) h with ⟨h1,-⟩ | ⟨a,len,cap,zs,h1,-,hl,-,hz,-,hc,-⟩
 · obtain rfl:v=.slice none 0 0:=by simpa using h1
   exact⟨none,0,0,rfl,fun _=>⟨[],rfl,IS.nil W⟩⟩
 · obtain rfl:v=.slice (some a) len cap:=by simpa using h1
   refine⟨some a,len,cap,rfl,fun hn=>⟨zs.take len,by rw[List.length_take];split at hz <;> omega,?_⟩⟩
   have hlen:(zs.take len).length=len:=by rw[List.length_take];split at hz <;> omega
   refine⟨some a,cap,by rw[hlen],by omega,fun h0=>?_⟩
   rw[hlen] at h0
   have hzl:len<=zs.length:=by split at hz <;> omega
   have c0:=hc 0 (by omega)
   have hs:a.spot=none:=by
    have:=World.cell?_spot c0
    simpa [Addr.add] using this
   obtain⟨b,o,s⟩:=a
   simp only at hs
   subst hs
   refine⟨b,o,rfl,?_,fun k hk=>?_⟩
   · have:=World.block_lt_of_cell? W _ c0
     simpa [Addr.add] using this
   · rw[hlen] at hk
     have:=hc k (by omega)
     rw[Addr.add_mid] at this
     rw[this]
     simp [List.getD_eq_getElem?_getD,List.getElem?_eq_getElem (show k<zs.length by omega)]
end
section
open Go.RowKit
set_option maxHeartbeats 8000000
set_option maxRecDepth 8000
attribute [local go_sem ↓] ldEnt stEnt stEntRow ldEntM
attribute [local go_sem] Held_drew isHead_mk headOf_mk offOf_mk isPtr_mk cellsOfV_mk isAggV_mk row_new row_new2 row_new2' row_drew row_drewN vals_size allOne_nil allOne_cons one_int one_bool one_string one_pointer one_slice vals_0 vals_1 vals_23 vals_28 vals_29 vals_32
def fewCP (F:Nat->Ef) (n:Nat) (m:Int):Prop:=(n:Int)<=m∧∀ k,k<n->(F k).e.name.size<=60∧(F k).e.target.size<=60∧(F k).n2<=12∧(F k).n1<=8
def FewCR (F:Nat->Ef) (n:Nat) (m:Int) (w w':World) (r:Ending):Prop:=∃ b:Bool,r=.returned (.bool b)∧(b=true->fewCP F n m)∧Below w.heap.size w w'
theorem FewCR.no {F:Nat->Ef} {n:Nat} {m:Int} {w w':World} (h:Below w.heap.size w w'):FewCR F n m w w' (.returned (.bool false)):=⟨false,rfl,(fun h=>by cases h),h⟩
theorem few35 (a:Option Addr) (n c:Nat) (F:Nat->Ef) (m:Int) (w:World) (hES:ES w a n F) :
  Calls Tryz.prog 9 #[.slice a n c,.int .i64 m] w fun r w'=>FewCR F n m w w' r:=by
 have HES:=Lib.hid hES
 have hn63:=hES.1
 clear hES
 go_enter Tryz.func9,Tryz.ntmps9
 go_wp2_with fail
 go_loopw [9] (fun i wr=>∃ k:Nat,k<=n∧i=.int .i64 k∧(∀ j,j<k->(F j).e.name.size<=60∧(F j).e.target.size<=60∧(F j).n2<=12∧(F j).n1<=8)∧Below w.heap.size w wr) (fun i _=>n - (intOf i).toNat)
 case atStart=>exact⟨0,Nat.zero_le _,rfl,(fun j hj=>absurd hj (by omega)),by exact belA⟩
 case round =>
  obtain⟨k,hk,rfl,hok,B⟩:=hrel
  have HOK:=Lib.hid hok
  have z0:=B.size
  clear hok
  by_cases hlt:k<n
  · obtain⟨b,o,rfl,hb,a1,c1,a2,c2,hmid,h1,h2,-⟩:=(HES.out.below B).2 k hlt
    have hz:(mid wr b (o+k*33)).size=33:=by rw[hmid];exact vals_size _ _ _
    have hone:=vals_one (F k).e (.slice a1 (F k).n1 c1) (.slice a2 (F k).n2 c2) rfl rfl
    by_cases s0:(F k).e.name.size<=60
    rotate_left
    · have f6:decide (60<((F k).e.name.size:Int))=true:=by rw[decide_eq_true_eq];omega
      go_wp2_with fail
      go_ret
      exact FewCR.no (by exact belA)
    have f6:decide (60<((F k).e.name.size:Int))=false:=by rw[decide_eq_false_iff_not];omega
    by_cases s1:(F k).e.target.size<=60
    rotate_left
    · have f7:decide (60<((F k).e.target.size:Int))=true:=by rw[decide_eq_true_eq];omega
      go_wp2_with fail
      go_ret
      exact FewCR.no (by exact belA)
    have f7:decide (60<((F k).e.target.size:Int))=false:=by rw[decide_eq_false_iff_not];omega
    by_cases s2:(F k).n2<=12
    rotate_left
    · have f8:decide (12<((F k).n2:Int))=true:=by rw[decide_eq_true_eq];omega
      go_wp2_with fail
      go_ret
      exact FewCR.no (by exact belA)
    have f8:decide (12<((F k).n2:Int))=false:=by rw[decide_eq_false_iff_not];omega
    by_cases s3:(F k).n1<=8
    rotate_left
    · have f9:decide (8<((F k).n1:Int))=true:=by rw[decide_eq_true_eq];omega
      go_wp2_with fail
      go_ret
      exact FewCR.no (by exact belA)
    have f9:decide (8<((F k).n1:Int))=false:=by rw[decide_eq_false_iff_not];omega
    have HS:Hid ((F k).e.name.size<=60∧(F k).e.target.size<=60∧(F k).n2<=12∧(F k).n1<=8):=Lib.hid ⟨s0,s1,s2,s3⟩
    clear s0 s1 s2 s3
    go_wp2_with fail
    go_roundw
    case rel =>
     refine⟨k+1,by omega,by go_num,fun j hj=>?_,by exact belA⟩
     rcases Nat.lt_or_ge j k with h | h
     · exact HOK.out j h
     · obtain rfl:j=k:=by omega
       exact HS.out
    case measure=>simp [intOf];omega
  · obtain rfl:k=n:=by omega
    by_cases s0:(k:Int)<=m
    rotate_left
    · have f6:decide ((k:Int)<=m)=false:=by rw[decide_eq_false_iff_not];exact s0
      go_wp2_with fail
      go_ret
      exact FewCR.no B
    have f6:decide ((k:Int)<=m)=true:=by rw[decide_eq_true_eq];exact s0
    have HS:Hid ((k:Int)<=m):=Lib.hid s0
    clear s0
    go_wp2_with fail
    go_ret
    exact⟨_,rfl,fun _=>⟨HS.out,HOK.out⟩,B⟩
end
section
open Go.RowKit
set_option maxHeartbeats 16000000
set_option maxRecDepth 8000
set_option linter.unusedSimpArgs false
theorem renc_z (x:Fu) (al gr:Value) (w:World) (hok:okX x=true) (hsz:x.1.name.size<=60) (h1:IS w al x.2.1) (h2:GS w gr x.2.2) :
  Calls Tryz.prog 149 #[.agg (x.1.vals al gr)] w fun r w'=>r=.returned (.tuple #[.string (recZ x),.int .i64 0])∧Below w.heap.size w w':=by
 refine (renc_any x al gr w hsz h1 h2).mono ?_
 rintro r w' ⟨t,rfl,ht,hb⟩
 obtain rfl:t=recZ x:=Ds.bl_inj (by rw[ht];unfold recZ;rw[Ds.bl_mk])
 rw[if_pos hok]
 exact⟨rfl,hb⟩
theorem is_own_l {w:World} {al:Value} {l:List Int} (h:IS w al l) (h0:0<l.length) (q:Nat) (hq:al.ownBlock=some q):q<w.heap.size:=by
 obtain⟨a,c,rfl,-,hc⟩:=h
 obtain⟨b,o,rfl,hb,-⟩:=hc h0
 cases hq;exact hb
theorem gs_own_l {w:World} {al:Value} {l:List Gr} (h:GS w al l) (h0:0<l.length) (q:Nat) (hq:al.ownBlock=some q):q<w.heap.size:=by
 obtain⟨a,c,rfl,-,hc⟩:=h
 obtain⟨b,o,rfl,hb,-⟩:=hc h0
 cases hq;exact hb
theorem ca_yes_add (sv:Value) (D:List Rw) (id:Int) (x:Fu) (al gr:Value) (w:World) (hm:MaxL w) (hT:Tab w) (hsz:x.1.name.size<=60) (hI:IS w al x.2.1) (hG:GS w gr x.2.2) (hr:RwS w sv D) (ho:∀ b,sv.ownBlock=some b->b<w.heap.size) :
  Calls Tryz.prog 11 #[.iface 37 (.pointer (some ⟨w.heap.size,0,none⟩)),.int .i64 id,.agg (x.1.vals al gr)] (w.alloc (.cells #[sv,.int .i64 0,.int .i64 0,.int .i64 0] 69)) fun r w'=>∃ ov,r=.returned (.tuple #[ov,.int .i64 (addR D id x).2])∧ChS w' ov (addR D id x).1∧RwS w' sv D∧Below w.heap.size w w':=by
 have hb:=below_al' w (.cells #[sv,.int .i64 0,.int .i64 0,.int .i64 0] 69)
 refine (ca_add w.heap.size sv D 0 0 0 id x al gr w _ hm hT (shelf_newC sv D w hr ho) (Int.le_refl _) (by decide) (.inr (Int.le_refl _)) (by omega) (hI.below hb) (hG.below hb) (fun h0 q hq=>by have:=is_own_l hI h0 q hq;omega) (fun h0 q hq=>by have:=gs_own_l hG h0 q hq;omega)).mono ?_
 rintro _ w' ⟨ov,rfl,hc,hs,-⟩
 rw[addF_no D 0 0 0 id x (Int.le_refl _) (Int.le_refl _)] at hc ⊢
 exact⟨ov,rfl,hc,hs.r,hs.b⟩
theorem ca_ref_add (sv:Value) (D:List Rw) (id:Int) (x:Fu) (al gr:Value) (w:World) (hsz:x.1.name.size<=60) (hI:IS w al x.2.1) (hG:GS w gr x.2.2) (hr:RwS w sv D) :
  Calls Tryz.prog 48 #[sv,.int .i64 id,.agg (x.1.vals al gr)] w fun r w'=>Ch2 w w' (addR D id x) r :=
 r35_add sv D id x al gr w hr hsz (vals_one _ _ _ (is_one hI) (gs_one hG)) (fun W b=>rva_any x al gr W hsz (hI.below b) (hG.below b)) (fun hok W b=>renc_z x al gr W hok hsz (hI.below b) (hG.below b))
attribute [local go_sem ↓] ldEnt stEnt stEntRow bldEnt
attribute [local go_sem] Held_drew isHead_mk headOf_mk offOf_mk isPtr_mk cellsOfV_mk isAggV_mk row_new row_new2 row_new2' row_drew row_drewN vals_size allOne_nil allOne_cons one_int one_bool one_string one_pointer one_slice one_func
end
end Go.Proofs.YtkafnmbldpofdaaGreatDoor
