/- Several texts in one: LaCk CardCk. -/
import Derived.Test.YtlmgolkgodfmpaaGreatDoorAwQ
import Derived.Test.YtlmgolkgodfmpaaGreatDoorRp
import Derived.Test.YtlmgolkgodfmpaaGreatDoorFrameEs
import Derived.Test.YtlmgolkgodfmpaaGreatDoorJAccessChecks
section
/- The walk of AccessChecks: Profiles and Check return the results of the reference. -/
namespace Go.Proofs.YtlmgolkgodfmpaaGreatDoor
open Go.RowKit
set_option maxHeartbeats 16000000
set_option maxRecDepth 8000
set_option linter.unusedSimpArgs false
theorem shelf_new (sv:Value) (l:List Rw) (w:World) (hr:RwS w sv l) (ho:∀ b,sv.ownBlock=some b→b<w.heap.size):SHs w (w.alloc (.cells #[sv,.int .i64 0,.int .i64 0,.int .i64 0] 61)) w.heap.size sv l 0 0 0:=by
 refine⟨⟨row_new _ _ _ _,fun o=>by simp⟩,hr.below ((Below.refl _ _).alloc (Nat.le_refl _) _),fun b hb e=>?_,Nat.le_refl _,by simp,(Below.refl _ _).alloc (Nat.le_refl _) _⟩
 have:=ho b hb
 omega
theorem hj_two (H:List Ef) (hn:∀ x∈H,x.n1=0) (hz:H.length≤1000) {b1 b2:Nat} {w:World} {v1 v2:Value} {r1 r2:List (Array Value)} (h1:HJ b1 w v1 H r1) (h2:HJ b2 w v2 H r2) :
  Calls Tryz.prog 38 #[v1,v2] w fun r w'=>r=.returned (.bool true)∧Below w.heap.size w w':=by
 obtain⟨a1,c1,F,rfl,e1,l1,n1⟩:=h1.es (by omega)
 obtain⟨a2,c2,G,rfl,e2,l2,n2⟩:=h2.es (by omega)
 refine rentries H.length a1 a2 c1 c2 F G w e1 e2 fun k hk=>?_
 have g:∀ K:Nat→Ef,lst K H.length=H→K k=H[k]:=fun K e=>by
  have e:=congrArg (fun l=>l[k]?) e
  simp only[lst] at e
  rw[List.getElem?_map,List.getElem?_range hk,Option.map_some,List.getElem?_eq_getElem hk] at e
  exact Option.some.inj e
 exact⟨(g F l1).trans (g G l2).symm,by rw[g F l1];exact hn _ (List.getElem_mem hk),n1 k hk⟩
theorem pr_ck (p:Nat) (sv:Value) (D:List Rw) (id:Int) (P:List Fu × Int) (hP:proR (srt id 80 D) []=P) (hd:DstL D) (hl:D.length≤900) (w0 w:World) (hm:MaxL w0) (hT:Tab w0) (hS:SHs w0 w p sv D 0 0 0) :
  Calls Tryz.prog 36 #[.iface 45 (.pointer (some ⟨p,0,none⟩)),.int .i64 id] w fun r w'=>∃ hv rows,r=.returned (.tuple #[hv,.int .i64 P.2])∧HJ w.heap.size w' hv (P.1.map toEf) rows∧Below w0.heap.size w0 w'∧RwS w' sv D:=by
 have h:=proF_ref D id 0 0 hd (by decide)
 rw[hP] at h
 refine (pr_loop p sv D 0 0 0 id w0 w hm hT hS (by decide) (by decide) (by omega) (Or.inr (by decide))).mono ?_
 rintro r w' ⟨hv,rows,rfl,hJ,hS',-⟩
 exact⟨hv,rows,by rw[h.2],by rw[← h.1];exact hJ,hS'.b,hS'.r⟩
theorem ck_ck (p:Nat) (sv:Value) (D:List Rw) (id:Int) (P:List Fu × Int) (hP:proR (srt id 80 D) []=P) (hd:DstL D) (hl:D.length≤900) (u:ByteArray) (gv:Value) (gl:List ByteArray) (name:ByteArray) (need:Int) (w0 w:World) (hm:MaxL w0) (hT:Tab w0) (hS:SHs w0 w p sv D 0 0 0) (hgl:SS w gv gl) (hgp:gl≠[]→∀ b,gv.ownBlock=some b→b≠p) :
  Calls Tryz.prog 39 #[.iface 45 (.pointer (some ⟨p,0,none⟩)),.int .i64 id,.string u,gv,.string name,.int .i64 need] w fun r w'=>r=.returned (.int .i64 (chkR P u gl name need))∧Below w0.heap.size w0 w'∧RwS w' sv D:=by
 have h:=chkF_ref D id 0 0 u gl name need hd (by decide)
 rw[hP] at h
 refine (ac_check p sv D 0 0 0 id u gv gl name need w0 w hm hT hS (by decide) (by decide) hl (Or.inr (by decide)) hgl hgp).mono ?_
 rintro r w' ⟨rfl,hS',-⟩
 exact⟨by rw[h],hS'.b,hS'.r⟩
theorem ss_lt {w:World} {v:Value} {l:List ByteArray} (h:SS w v l) (h0:l≠[]) (b:Nat) (hb:v.ownBlock=some b):b<w.heap.size:=by
 obtain⟨a,c,rfl,-,h3⟩:=h
 obtain⟨b',o,rfl,hlt,-⟩:=h3 (List.length_pos_iff.2 h0)
 cases hb
 exact hlt
theorem law_checks_yes (a0:Option Addr) (n0 c0:Nat) (L:List Rw) (id:Int) (u:ByteArray) (ga:Option Addr) (gn gc:Nat) (gl:List ByteArray) (name:ByteArray) (need:Int) (w:World) (hm:MaxL w) (hT:Tab w) (hS:RwS w (.slice a0 n0 c0) L) (hL:L.length≤16) (hgl:SS w (.slice ga gn gc) gl)
  (hF:∀ W,Below w.heap.size w W→Calls Tryz.prog 20 #[.slice a0 n0 c0,.int .i64 16] W fun r w'=>∃ b:Bool,r=.returned (.bool b)∧w'=W) :
  Calls Tryz.prog 6 #[.slice a0 n0 c0,.int .i64 id,.string u,.slice ga gn gc,.string name,.int .i64 need] w fun r w'=>r=.returned (.bool true)∧Below w.heap.size w w':=by
 have HAW:=Lib.hid (fun W (b:Below w.heap.size w W)=>aw34 W (hm.below b) (hT.below b))
 have HF:=Lib.hid hF
 have HM:=Lib.hid hm
 have HTB:=Lib.hid hT
 have HS:=Lib.hid hS
 have HGL:=Lib.hid hgl
 have hd:=dst_dst L L.length
 have hdl:=dst_len L L.length
 have HDI:=Lib.hid (fun W (b:Below w.heap.size w W)=>rdist (.slice a0 n0 c0) L W (by omega) (hS.below b))
 generalize dst L L.length=D at hd hdl HDI
 obtain⟨P,hP⟩:∃ P,proR (srt id 80 D) []=P:=⟨_,rfl⟩
 have hok:=proR_q (srt id 80 D) [] (srt_head id D) (fun y h=>by cases h)
 have hlen:=proR_len (srt id 80 D) []
 have hle:=srt_le id 80 D
 rw[hP] at hok hlen
 rw[List.length_nil] at hlen
 have HE:=Lib.hid (fun (b1 b2:Nat) (W:World) (v1 v2:Value) (r1 r2:List (Array Value)) (h1:HJ b1 W v1 (P.1.map toEf) r1) (h2:HJ b2 W v2 (P.1.map toEf) r2)=>hj_two (P.1.map toEf) (fun x hx=>by
  obtain⟨y,hy,rfl⟩:=List.mem_map.1 hx
  show y.2.1.length=0
  rw[(hok y hy).2];rfl) (by rw[List.length_map];omega) h1 h2)
 have HPR:=Lib.hid (fun (sv:Value) (W:World) (h:RwS W sv D)=>by
  have:=rprof sv D id W (by omega) h
  rw[hP] at this
  exact this)
 have HCR:=Lib.hid (fun (sv:Value) (W:World) (h:RwS W sv D) (hg:SS W (.slice ga gn gc) gl)=>by
  have:=rcheck sv D id u (.slice ga gn gc) gl name need W (by omega) h hg
  rw[hP] at this
  exact this)
 have HPP:=Lib.hid (fun (p:Nat) (sv:Value) (w0 W:World) hm hT hS=>pr_ck p sv D id P hP hd (by omega) w0 W hm hT hS)
 have HCP:=Lib.hid (fun (p:Nat) (sv:Value) (w0 W:World) hm hT hS h1 h2=>ck_ck p sv D id P hP hd (by omega) u (.slice ga gn gc) gl name need w0 W hm hT hS h1 h2)
 generalize hcc:chkR P u gl name need=cc at HCR HCP
 generalize hpc:P.2=pc at HPP
 have HPC:=Lib.hid hpc
 have l1:(pc==pc)=true:=by simp
 have l2:(cc==cc)=true:=by simp
 obtain⟨q1,e1⟩:∃ b,decide (6<(gn:Int))=b:=⟨_,rfl⟩
 obtain⟨q2,e2⟩:∃ b,decide (60<(name.size:Int))=b:=⟨_,rfl⟩
 clear hd hdl hP hok hlen hle hF hS hgl hcc hpc hm hT
 cases q1
 · cases q2
   · go_enter Tryz.func6,Tryz.ntmps6
     go_wp2_with (first
      | (go_at_call 35;(with_reducible refine (HAW.out _ (Below.refl _ _)).mono ?_);rintro _ w1 ⟨rfl,b1⟩)
      | (go_at_call 20;(refine (HF.out _ b1).mono ?_);rintro _ w2 ⟨bb,rfl,rfl⟩;cases bb)
      | (go_at_call 22;(refine (HDI.out _ b1).mono ?_);rintro _ w3 ⟨v3,rfl,hD,hDo,b3⟩;obtain⟨va,vc,rfl,-⟩:=_root_.id hD;have B3:=Lib.hid (bt b1 b3);have S3:=Lib.hid (shelf_new _ _ w3 hD (fun q hq=>(hDo q hq).2));have HDO:=Lib.hid (fun q hq=>(hDo q hq).2);clear hD hDo b3)
      | (go_at_call 36;(refine (HPP.out _ _ w3 _ (HM.out.below B3.out) (HTB.out.below B3.out) S3.out).mono ?_);rintro _ w4 ⟨hv,rows,rfl,hJ,b4,hR⟩;have B4:=Lib.hid (bt B3.out b4);have z4:=b4.size;have J4:=Lib.hid hJ;have R4:=Lib.hid hR;clear hJ b4 hR)
      | (go_at_call 37;(refine (HPR.out _ _ R4.out).mono ?_);rintro _ w5 ⟨hv2,rows2,rfl,hJ,b5⟩;have B5:=Lib.hid (bt B4.out b5);have z5:=b5.size;have J5:=Lib.hid hJ;have J45:=Lib.hid (J4.out.below b5);have R5:=Lib.hid (R4.out.below b5);have e5:=HPC.out;clear hJ b5)
      | (go_at_call 38;(refine (HE.out _ _ _ _ _ _ _ J45.out J5.out).mono ?_);rintro _ w6 ⟨rfl,b6⟩;have B6:=Lib.hid (bt B5.out b6);have z6:=b6.size;have S6:=Lib.hid (shelf_new _ _ w6 (R5.out.below b6) (fun q hq=>Nat.lt_of_lt_of_le (HDO.out q hq) (by omega)));clear b6)
      | (go_at_call 39;(refine (HCP.out _ _ w6 _ (HM.out.below B6.out) (HTB.out.below B6.out) S6.out (HGL.out.below (bt B6.out (below_al' _ _))) (fun h0 b hb=>by have:=ss_lt HGL.out h0 b hb;have:=B6.out.size;omega)).mono ?_);rintro _ w7 ⟨rfl,b7,hR⟩;have B7:=Lib.hid (bt B6.out b7);have R7:=Lib.hid hR;clear b7 hR)
      | (go_at_call 40;(refine (HCR.out _ _ R7.out (HGL.out.below B7.out)).mono ?_);rintro _ w8 ⟨rfl,b8⟩))
     all_goals
      go_ret
      exact⟨rfl,by first | exact bt B7.out b8 | exact b1⟩
   · go_enter Tryz.func6,Tryz.ntmps6
     go_wp2_with (first
      | (go_at_call 35;(with_reducible refine (HAW.out _ (Below.refl _ _)).mono ?_);rintro _ w1 ⟨rfl,b1⟩)
      | (go_at_call 20;(refine (HF.out _ b1).mono ?_);rintro _ w2 ⟨bb,rfl,rfl⟩;cases bb))
     all_goals
      go_ret
      exact⟨rfl,b1⟩
 · go_enter Tryz.func6,Tryz.ntmps6
   go_wp2_with (first
    | (go_at_call 35;(with_reducible refine (HAW.out _ (Below.refl _ _)).mono ?_);rintro _ w1 ⟨rfl,b1⟩)
    | (go_at_call 20;(refine (HF.out _ b1).mono ?_);rintro _ w2 ⟨bb,rfl,rfl⟩;cases bb))
   all_goals
    go_ret
    exact⟨rfl,b1⟩
theorem law_checks_no (a0:Option Addr) (n0 c0:Nat) (F:Nat→Rw) (id:Int) (u:ByteArray) (ga:Option Addr) (gn gc:Nat) (name:ByteArray) (need:Int) (w:World) (hm:MaxL w) (hT:Tab w) (hL:RwL w a0 n0 F) (h:¬ (n0≤16∧gn≤6)) :
  Calls Tryz.prog 6 #[.slice a0 n0 c0,.int .i64 id,.string u,.slice ga gn gc,.string name,.int .i64 need] w fun r w'=>r=.returned (.bool true)∧Below w.heap.size w w':=by
 have HAW:=Lib.hid (fun W (b:Below w.heap.size w W)=>aw34 W (hm.below b) (hT.below b))
 have HF:=Lib.hid (fun W (b:Below w.heap.size w W)=>rfew34 a0 n0 c0 F 16 W (hL.below b))
 obtain⟨q1,e1⟩:∃ b,decide (6<(gn:Int))=b:=⟨_,rfl⟩
 have HQ:Hid (q1=false→¬ n0≤16):=Lib.hid (by
  rintro rfl h2
  rw[decide_eq_false_iff_not] at e1
  exact h ⟨h2,by omega⟩)
 clear h
 cases q1
 · have HN:=Lib.hid (HQ.out rfl)
   clear HQ
   go_enter Tryz.func6,Tryz.ntmps6
   go_wp2_with (first
    | (go_at_call 35;(with_reducible refine (HAW.out _ (Below.refl _ _)).mono ?_);rintro _ w1 ⟨rfl,b1⟩)
    | (go_at_call 20;(refine (HF.out _ b1).mono ?_);rintro _ w2 ⟨bb,rfl,hf,rfl⟩;have HF2:=Lib.hid hf;clear hf;cases bb;rotate_left 1;exact absurd (by have:=(HF2.out rfl).1;omega) HN.out))
   go_ret
   exact⟨rfl,b1⟩
 · go_enter Tryz.func6,Tryz.ntmps6
   go_wp2_with (first
    | (go_at_call 35;(with_reducible refine (HAW.out _ (Below.refl _ _)).mono ?_);rintro _ w1 ⟨rfl,b1⟩)
    | (go_at_call 20;(refine (HF.out _ b1).mono ?_);rintro _ w2 ⟨bb,rfl,-,rfl⟩;cases bb))
   all_goals
    go_ret
    exact⟨rfl,b1⟩
theorem law_checks (a0:Option Addr) (n0 c0:Nat) (F:Nat→Rw) (id:Int) (u:ByteArray) (ga:Option Addr) (gn gc:Nat) (name:ByteArray) (need:Int) (w:World) (hm:MaxL w) (hT:Tab w) (hL:RwL w a0 n0 F) (hG:gn≤1000→∃ l:List ByteArray,l.length=gn∧SS w (.slice ga gn gc) l) :
  Calls Tryz.prog 6 #[.slice a0 n0 c0,.int .i64 id,.string u,.slice ga gn gc,.string name,.int .i64 need] w fun r w'=>r=.returned (.bool true)∧Below w.heap.size w w':=by
 by_cases h:n0≤16∧gn≤6
 · obtain⟨gl,-,hgl⟩:=hG (by omega)
   refine law_checks_yes a0 n0 c0 (rlst F n0) id u ga gn gc gl name need w hm hT (hL.rws c0 (by omega)) (by rw[rlst_len];exact h.1) hgl fun W b=>?_
   refine (rfew34 a0 n0 c0 F 16 W (hL.below b)).mono ?_
   rintro r w' ⟨bb,rfl,-,rfl⟩
   exact⟨bb,rfl,rfl⟩
 · exact law_checks_no a0 n0 c0 F id u ga gn gc name need w hm hT hL h
end Go.Proofs.YtlmgolkgodfmpaaGreatDoor
end
section
/- The statement AccessChecks: the walk, the frame of the row, the card. Conditions: none beyond the statement. -/
namespace Go.Proofs.YtlmgolkgodfmpaaGreatDoor.accessChecks
open Go.ChangeShapes Go.WideShapes Go.ChangeAt Go.RowKit Go.Proofs.YtlmgolkgodfmpaaGreatDoor
open Go.ChangeMaps (open_string)
set_option maxRecDepth 100000 in
theorem contract (H:Type) (enc:TypeId × Value→H) (W:World) (base:Nat) (args:Array Value) (ds gs:List (DataW H)) (before:List MemPlace)
  (hval:∀ (j:Nat) t v,Tryz.f6.params[j]?=some t→args[j]?=some v→Value.okWide Tryz.prog W .any base t v)
  (hW:DataW.Whole enc Tryz.prog Tryz.f6.params.toList Rows.accessChecksSpec.vars false W args.toList ds gs before) (hL:laidMetH Tryz.prog Rows.accessChecksRow.laid W) (hS:W.ShapedOpen Tryz.prog) :
  Calls Tryz.prog 6 args W fun e W'=>∃ v,e=.returned v∧Rows.accessChecksSpec.post enc Tryz.prog Tryz.f6 false true false false W args v W':=by
 have hW':=hW
 have hlt:∀ x∈before,x.block<W.heap.size:=fun x hx=>by simpa using hW'.lt x hx
 obtain⟨p,q,hA0,hV,rfl,hfz,hnd⟩:=hW
 have hA:DataW.TrodAll enc Tryz.prog W 0 (fun _=>true) true Tryz.f6.params.toList args.toList ds p:=hA0
 have hK:=hA
 rw[Tryz.params6] at hA hval
 obtain⟨v0,vs0,d0,ds0,p0,q0,hargs,rfl,rfl,h0,r0⟩:=trodAll_cons hA
 obtain⟨v1,vs1,d1,ds1,p1,q1,rfl,rfl,rfl,h1,r1⟩:=trodAll_cons r0
 obtain⟨v2,vs2,d2,ds2,p2,q2,rfl,rfl,rfl,h2,r2⟩:=trodAll_cons r1
 obtain⟨v3,vs3,d3,ds3,p3,q3,rfl,rfl,rfl,h3,r3⟩:=trodAll_cons r2
 obtain⟨v4,vs4,d4,ds4,p4,q4,rfl,rfl,rfl,h4,r4⟩:=trodAll_cons r3
 obtain⟨v5,vs5,d5,ds5,p5,q5,rfl,rfl,rfl,h5,r5⟩:=trodAll_cons r4
 obtain⟨rfl,rfl,rfl⟩:=trodAll_nil r5
 obtain rfl:args=#[v0,v1,v2,v3,v4,v5]:=by cases args;simp_all
 obtain⟨rfl,rfl⟩:=trodVars_none hV
 obtain⟨a0,n0,c0,F0,rfl,o0⟩:=open_rw (hval 0 36 v0 rfl rfl) h0
 obtain⟨n1,rfl⟩:=okWide_int Tryz.underlying3 (hval 1 3 v1 rfl rfl)
 have hs2:=hval 2 9 v2 rfl rfl
 obtain⟨s2,rfl⟩:=okWide_string Tryz.underlying9 hs2
 obtain⟨a3,n3,c3,rfl,o3⟩:=open_ss (hval 3 33 v3 rfl rfl) h3
 have hs4:=hval 4 9 v4 rfl rfl
 obtain⟨s4,rfl⟩:=okWide_string Tryz.underlying9 hs4
 obtain⟨n5,rfl⟩:=okWide_int Tryz.underlying3 (hval 5 3 v5 rfl rfl)
 rw[MakeChecks.laidMetH_plain _ _ _ (by kernel_rfl)] at hL
 refine (law_checks a0 n0 c0 F0 _ _ a3 n3 c3 _ _ W (max_of hS) (tab_of hL) o0 o3).mono fun e W' ⟨he,hb⟩=>?_
 subst he
 exact⟨_,rfl,_,_,_,[],_,[],hW',trodAll_cons_mk (shut_bool Tryz.underlying4 _) trodAll_mk0,args_below hb (by rw[Tryz.params6];kernel_rfl) hK (fun x hx=>hlt x (by simpa using hx)),rfl,hb.frame _,fun h=>by cases h⟩
theorem laid_met (os:Os):laidMetH Tryz.prog Rows.accessChecksRow.laid ((World.laidAll Tryz.prog os Rows.accessChecksRow.laid).forCall (fun _ _=>0) ⟨#[],#[(.slice none 0 0:Value),(.int .i64 0:Value),(.string ⟨#[]⟩:Value),(.slice none 0 0:Value),(.string ⟨#[]⟩:Value),(.int .i64 0:Value)],[]⟩).memory:=by
 rw[MakeChecks.laidMetH_plain _ _ _ (by kernel_rfl)];exact laidMet_laidAll _ (by kernel_rfl) (by kernel_rfl)
theorem reads (os:Os) {H:Type} (enc:TypeId × Value→H):∃ places,DataW.whole enc Tryz.prog ((World.laidAll Tryz.prog os Rows.accessChecksRow.laid).forCall (fun _ _=>0) ⟨#[],#[(.slice none 0 0:Value),(.int .i64 0:Value),(.string ⟨#[]⟩:Value),(.slice none 0 0:Value),(.string ⟨#[]⟩:Value),(.int .i64 0:Value)],[]⟩).memory Tryz.f6.params.toList Rows.accessChecksSpec.vars false #[(.slice none 0 0:Value),(.int .i64 0:Value),(.string ⟨#[]⟩:Value),(.slice none 0 0:Value),(.string ⟨#[]⟩:Value),(.int .i64 0:Value)].toList 8=some ([.nil,.lit (.int .i64 0),.lit (.string []),.nil,.lit (.string []),.lit (.int .i64 0)],[],places) :=
 ⟨[],by kernel_rfl⟩
set_option maxRecDepth 100000 in
theorem lifted (os:Os) (started:os.Started) (H:Type) (enc:TypeId × Value→H) (F:Stop.Interp) :
  ReturnsInHanded {} Tryz.checked os 6 .any ((OpenSpec.ofChange Rows.accessChecksSpec).preRow enc Tryz.prog Tryz.f6 Rows.accessChecksRow.domain false Rows.accessChecksRow.laid) (((OpenSpec.ofChange Rows.accessChecksSpec).at F).post enc Tryz.prog Tryz.f6 false true false false):=by
 obtain⟨places,hx⟩:=reads os enc
 refine returnsInHanded_of_row (C:=Tryz.checked) (s:=OpenSpec.ofChange Rows.accessChecksSpec) ownk started (by kernel_rfl) Tryz.func6
  (witness_lay (enc:=enc) (C:=Tryz.checked) false #[(.slice none 0 0:Value),(.int .i64 0:Value),(.string ⟨#[]⟩:Value),(.slice none 0 0:Value),(.string ⟨#[]⟩:Value),(.int .i64 0:Value)] (World.shaped_of_ZipB (by kernel_rfl) (by kernel_rfl)) (by kernel_rfl)
    (OpenSpec.preRow_of_cond 8 hx (by kernel_rfl) (fun k hk=>by cases hk) (by kernel_rfl) (laid_met os))) ?_
 intro W base args ds gs before hval hW _ _ _ hL hS _
 exact contract H enc W base args ds gs before hval hW hL hS
theorem said:Rows.AccessChecksSaid :=
 OpenClaim.holds_of_cond 6 Tryz.f6 rfl rfl rfl rfl rfl rfl rfl ⟨rfl,rfl,rfl,rfl,rfl⟩ rfl rfl rfl rfl rfl (by kernel_rfl) Tryz.func6 joined_accessChecks
  (of_decide_eq_true (by kernel_rfl)) (by unfold Func.isWrapper;first | (rw[if_pos (by decide +kernel)];kernel_rfl) | (rw[if_neg (by decide +kernel)];exact⟨rfl,rfl⟩))
  (fun os started H enc _ F=>by rw[OpenClaim.pre_eq_preRow];exact lifted os started H enc F)
theorem plain (f:FuncId) (fn:Func) (hf:Tryz.pinned.checked.prog.funcNamed Rows.accessChecksRow.func=some f) (hfn:Tryz.pinned.checked.prog.funcs[f]?=some fn) :
  false=Tryz.pinned.checked.prog.looks []∧∀ (j:Nat) t,fn.params[j]?=some t→Tryz.pinned.checked.prog.wantsStandIn t=false:=by
 obtain rfl:f=6:=Option.some.inj ((show Tryz.prog.funcNamed Rows.accessChecksRow.func=some 6 by kernel_rfl).symm.trans hf) |>.symm
 obtain rfl:fn=Tryz.f6:=(Option.some.inj (Tryz.func6.symm.trans hfn)).symm
 refine⟨by kernel_rfl,fun j t ht=>?_⟩
 rw[Tryz.params6] at ht
 have hm:=Array.mem_of_getElem? ht
 have ha:(#[36,3,9,33,9,3]:Array TypeId).all (fun t=>!Tryz.prog.wantsStandIn t)=true:=by kernel_rfl
 have:=(Array.all_eq_true_iff_forall_mem.1 ha) t hm
 exact (show Tryz.prog.wantsStandIn t=false by simpa using this)
theorem card:Rows.AccessChecksCardSaid :=
 Claim7.holds_tied_plain_at .later [] _ _ _ _ said (fun _ h=>by cases h) (by kernel_rfl) (fun _ h=>by cases h) accessChecks_row_tie rfl ⟨rfl,rfl⟩ (by kernel_rfl) rfl plain (by kernel_rfl)
end Go.Proofs.YtlmgolkgodfmpaaGreatDoor.accessChecks
end
