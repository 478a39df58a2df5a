/- The statement CatalogThere: the walk, the frame of the row, the card. Conditions: none beyond the statement. -/
import Derived.Test.YtkafnmbldpofdaaGreatDoorLaCa
import Derived.Test.YtkafnmbldpofdaaGreatDoorFrameEs
import Derived.Test.YtkafnmbldpofdaaGreatDoorLaTh
import Derived.Test.YtkafnmbldpofdaaGreatDoorJCatalogThere
namespace Go.Proofs.YtkafnmbldpofdaaGreatDoor
section
open Go.ChangeShapes Go.WideShapes Go.RowKit
set_option maxRecDepth 100000
def EFT (w:World) (b o:Nat) (x:Ef):Prop :=
 ∃ (a1:Option Addr) (c1:Nat) (a2:Option Addr) (c2:Nat),mid w b o=x.e.vals (.slice a1 x.n1 c1) (.slice a2 x.n2 c2)∧x.n1<=9223372036854775807∧x.n2<=9223372036854775807∧(x.n1<=1000->∃ l:List Int,l.length=x.n1∧IS w (.slice a1 x.n1 c1) l)∧(x.n2<=1000->x.gs.length=x.n2∧GS w (.slice a2 x.n2 c2) x.gs)
def EST (w:World) (a:Option Addr) (n:Nat) (F:Nat->Ef):Prop:=n<=9223372036854775807∧∀ k,k<n->∃ b o,a=some ⟨b,o,none⟩∧b<w.heap.size∧EFT w b (o+k*33) (F k)
theorem EST.es {w:World} {a:Option Addr} {n:Nat} {F:Nat->Ef} (h:EST w a n F):ES w a n F :=
 ⟨h.1,fun k hk=>by
  obtain⟨b,o,h1,h2,a1,c1,a2,c2,h3,h4,h5,-,h7⟩:=h.2 k hk
  exact⟨b,o,h1,h2,a1,c1,a2,c2,h3,h4,h5,h7⟩⟩
theorem ints_T {H:Type} {enc:TypeId × Value->H} {W:World} {fuel:Nat} {a:Option Addr} {n c:Nat} {x:DataW H × List MemPlace} (h:DataW.trod enc Tryz.prog W 0 (fun _=>true) true fuel 29 [.slice a n c]=some x):n<=1000->∃ l:List Int,l.length=n∧IS W (.slice a n c) l:=by
 obtain⟨a',n',c',e,hg⟩:=open_isliceN h
 cases e
 exact hg
theorem open_est {H:Type} {enc:TypeId × Value->H} {W:World} {r:Reach} {base:Nat} {v:Value} {d:DataW H} {p:List MemPlace} (hv:Value.okWide Tryz.prog W r base 22 v) (h:DataW.Trod enc Tryz.prog W 0 (fun _=>true) true 22 v d p) :
  ∃ (a:Option Addr) (n c:Nat) (F:Nat->Ef),v=.slice a n c∧EST W a n F:=by
 obtain⟨a,n,c,rfl⟩:=okWide_slice Tryz.underlying22 hv
 obtain⟨fuel,hf⟩:=h
 rcases Go.Deep.open_slice Tryz.underlying22 hf with ⟨h1,-⟩ | ⟨a',len,cap,m,f,D,Pl,h1,-,hl,hmax,hm,-,hi⟩
 · have:=List.head_eq_of_cons_eq h1
   injection this with e1 e2 e3
   subst e1 e2 e3
   exact⟨none,0,0,fun _=>⟨En.zero,0,0,[]⟩,rfl,by omega,fun k hk=>by omega⟩
 · have:=List.head_eq_of_cons_eq h1
   injection this with e1 e2 e3
   subst e1 e2 e3
   have e33:Tryz.prog.cellsOf 32=33:=by kernel_rfl
   have each:∀ k,k<n->∃ (x:Ef) (b o:Nat),a'=⟨b,o,none⟩∧b<W.heap.size∧EFT W b (o+k*33) x:=fun k hk=>by
    obtain⟨cs,hc,ht⟩:=hi k (by rw[hm];split <;> omega)
    rw[e33] at hc
    obtain⟨_,hcl,hat⟩:=World.cells?_some hc
    obtain⟨e,a1,n1,c1,a2,n2,c2,hcs,l1,l2,hg,fl,zz,htr⟩:=open_ef hcl ht
    have hIL:=ints_T htr
    obtain⟨cs0,hc0,-⟩:=hi 0 (by rw[hm];split <;> omega)
    rw[e33] at hc0
    obtain⟨_,hcl0,hat0⟩:=World.cells?_some hc0
    have z0:=(hat0 0 (by omega)).trans (List.getElem?_eq_getElem (by omega:0<cs0.length))
    obtain⟨b,o,s⟩:=a'
    obtain rfl:s=none:=by
     have:=World.cell?_spot z0
     simpa [Addr.add] using this
    have hcell:∀ (i:Nat) (v:Value),(e.vals (.slice a1 n1 c1) (.slice a2 n2 c2))[i]?=some v->W.cell? ⟨b,o+k*33+i,none⟩=some v:=fun i v hv=>by
     have hi33:i<33:=by have:=(Array.getElem?_eq_some_iff.1 hv).1;rw[vals_size] at this;exact this
     have:=hat i (by omega)
     rw[Addr.add_mid,Addr.add_mid] at this
     rw[this,hcs,Array.getElem?_toList]
     exact hv
    have hmid:=mid_of (w:=W) (b:=b) (o:=o+k*33) (vals_size e (.slice a1 n1 c1) (.slice a2 n2 c2)) hcell
    refine⟨⟨e,n1,n2,if h:n2<=1000 then Classical.choose (hg h) else []⟩,b,o,rfl,block_lt_of_cell (hcell 0 _ (vals_0 _ _ _)),a1,c1,a2,c2,hmid,l1,l2,hIL,fun h=>?_⟩
    have:=Classical.choose_spec (hg h)
    simp only[dif_pos (show n2<=1000 from h)]
    exact this
   refine⟨some a',n,c,fun k=>if h:k<n then Classical.choose (each k h) else ⟨En.zero,0,0,[]⟩,rfl,by simp only[maxLen] at hmax;omega,fun k hk=>?_⟩
   obtain⟨b,o,ha,hlt,hE⟩:=Classical.choose_spec (each k hk)
   refine⟨b,o,by rw[ha],hlt,?_⟩
   simp only[dif_pos hk]
   exact hE
end
section
open Go.RowKit
set_option maxHeartbeats 16000000
set_option maxRecDepth 8000
set_option linter.unusedSimpArgs false
theorem there_one {w:World} {a:Option Addr} {n:Nat} {F:Nat->Ef} (h:EST w a n F) (m:Int) (hf:fewCP F n m):∃ T:Nat->Fu × Value × Value,FVs w a n (fun k=>(T k).1) (fun k=>(T k).2.1) (fun k=>(T k).2.2):=by
 have key:∀ k,∃ t:Fu × Value × Value,k<n->∃ b o,a=some ⟨b,o,none⟩∧b<w.heap.size∧mid w b (o+k*33)=t.1.1.vals t.2.1 t.2.2∧IS w t.2.1 t.1.2.1∧GS w t.2.2 t.1.2.2∧t.1.1.name.size<=60:=by
  intro k
  by_cases hk:k<n
  · obtain⟨b,o,ha,hb,a1,c1,a2,c2,hmid,-,-,hi,hg⟩:=h.2 k hk
    obtain⟨q1,-,q2,q3⟩:=hf.2 k hk
    obtain⟨l,hl,hI⟩:=hi (by omega)
    exact⟨(((F k).e,l,(F k).gs),.slice a1 (F k).n1 c1,.slice a2 (F k).n2 c2),fun _=>⟨b,o,ha,hb,hmid,hI,(hg (by omega)).2,q1⟩⟩
  · exact⟨((En.zero,[],[]),undef,undef),fun h=>absurd h hk⟩
 obtain⟨T,hT⟩:=Classical.axiomOfChoice key
 exact⟨T,fun k hk=>hT k hk⟩
theorem law_there_no (a0:Option Addr) (n0 c0:Nat) (F0:Nat->Ef) (a1:Option Addr) (n1 c1:Nat) (F1:Nat->Ef) (w:World) (hm:MaxL w) (hT:Tab w) (h0:ES w a0 n0 F0) (h1:ES w a1 n1 F1) (hn:¬ (fewCP F0 n0 8∧fewCP F1 n1 6)) :
  Calls Tryz.prog 3 #[.slice a0 n0 c0,.slice a1 n1 c1] w fun r w'=>r=.returned (.bool true)∧Below w.heap.size w w':=by
 have HAW:=Lib.hid (fun W (b:Below w.heap.size w W)=>aw35 W (hm.below b) (hT.below b))
 have HF1:=Lib.hid (fun W (b:Below w.heap.size w W)=>few35 a0 n0 c0 F0 8 W (h0.below b))
 have HF2:=Lib.hid (fun W (b:Below w.heap.size w W)=>few35 a1 n1 c1 F1 6 W (h1.below b))
 have HN:=Lib.hid (fun p q=>hn ⟨p,q⟩)
 clear hm hT h0 h1 hn
 go_enter Tryz.func3,Tryz.ntmps3
 go_wp2_with (first
  | (go_at_call 8;(with_reducible refine (HAW.out _ (Below.refl _ _)).mono ?_);rintro _ w1 ⟨rfl,hb⟩;have B:=Lib.hid hb;clear hb)
  | (go_at_call 9;(refine (HF1.out _ B.out).mono ?_);rintro _ w2 ⟨bb,rfl,hf,hb⟩;clear HF1;have HK:=Lib.hid hf;clear hf;have B:=Lib.hid (bt B.out hb);clear hb;cases bb)
  | (go_at_call 9;(refine (HF2.out _ B.out).mono ?_);rintro _ w3 ⟨bb,rfl,hf,hb⟩;clear HF2;have HK2:=Lib.hid hf;clear hf;have B:=Lib.hid (bt B.out hb);clear hb;cases bb;rotate_left 1;exact absurd (HK2.out (by first | rfl | trivial)) (HN.out (HK.out (by first | rfl | trivial)))))
 all_goals
  go_ret
  exact⟨rfl,B.out⟩
theorem law_there (a0:Option Addr) (n0 c0:Nat) (F0:Nat->Ef) (a1:Option Addr) (n1 c1:Nat) (F1:Nat->Ef) (w:World) (hm:MaxL w) (hT:Tab w) (h0:EST w a0 n0 F0) (h1:EST w a1 n1 F1) :
  Calls Tryz.prog 3 #[.slice a0 n0 c0,.slice a1 n1 c1] w fun r w'=>r=.returned (.bool true)∧Below w.heap.size w w':=by
 by_cases h:fewCP F0 n0 8∧fewCP F1 n1 6
 · obtain⟨T0,hT0⟩:=there_one h0 8 h.1
   obtain⟨T1,hT1⟩:=there_one h1 6 h.2
   have z0:=h.1.1
   have z1:=h.2.1
   refine law_there_yes a0 n0 c0 (fun k=>(T0 k).1) a1 n1 c1 (fun k=>(T1 k).1) _ _ w hm hT (by omega) (by omega) (fun k hk=>?_) hT1 (fun W b=>?_) (fun W b=>?_)
   · obtain⟨b,o,q⟩:=hT0 k hk
     exact⟨b,o,_,_,q⟩
   · refine (few35 a0 n0 c0 F0 8 W (h0.es.below b)).mono ?_
     rintro r w' ⟨bb,rfl,-,hb⟩
     exact⟨bb,rfl,hb⟩
   · refine (few35 a1 n1 c1 F1 6 W (h1.es.below b)).mono ?_
     rintro r w' ⟨bb,rfl,-,hb⟩
     exact⟨bb,rfl,hb⟩
 · exact law_there_no a0 n0 c0 F0 a1 n1 c1 F1 w hm hT h0.es h1.es h
end
end Go.Proofs.YtkafnmbldpofdaaGreatDoor
section
namespace Go.Proofs.YtkafnmbldpofdaaGreatDoor.catalogThere
open Go.ChangeShapes Go.WideShapes Go.ChangeAt Go.RowKit Go.Proofs.YtkafnmbldpofdaaGreatDoor
open Go.ChangeMaps (open_string)
set_option maxRecDepth 100000 in
theorem contract (H:Type) (enc:TypeId × Value->H) (W:World) (base:Nat) (args:Array Value) (ds gs:List (DataW H)) (before:List MemPlace)
  (hval:∀ (j:Nat) t v,Tryz.f3.params[j]?=some t->args[j]?=some v->Value.okWide Tryz.prog W .any base t v)
  (hW:DataW.Whole enc Tryz.prog Tryz.f3.params.toList Rows.catalogThereSpec.vars false W args.toList ds gs before) (hL:laidMetH Tryz.prog Rows.catalogThereRow.laid W) (hS:W.ShapedOpen Tryz.prog) :
  Calls Tryz.prog 3 args W fun e W'=>∃ v,e=.returned v∧Rows.catalogThereSpec.post enc Tryz.prog Tryz.f3 false true false false W args v W':=by
 have hW':=hW
 have hlt:∀ x∈before,x.block<W.heap.size:=fun x hx=>by simpa using hW'.lt x hx
 obtain⟨p,q,hA0,hV,rfl,hfz,hnd⟩:=hW
 have hA:DataW.TrodAll enc Tryz.prog W 0 (fun _=>true) true Tryz.f3.params.toList args.toList ds p:=hA0
 have hK:=hA
 rw[Tryz.params3] at hA hval
 obtain⟨v0,vs0,d0,ds0,p0,q0,hargs,rfl,rfl,h0,r0⟩:=trodAll_cons hA
 obtain⟨v1,vs1,d1,ds1,p1,q1,rfl,rfl,rfl,h1,r1⟩:=trodAll_cons r0
 obtain⟨rfl,rfl,rfl⟩:=trodAll_nil r1
 obtain rfl:args=#[v0,v1]:=by cases args;simp_all
 obtain⟨rfl,rfl⟩:=trodVars_none hV
 obtain⟨a0,n0,c0,F0,rfl,o0⟩:=open_est (hval 0 22 v0 rfl rfl) h0
 obtain⟨a1,n1,c1,F1,rfl,o1⟩:=open_est (hval 1 22 v1 rfl rfl) h1
 rw[MakeChecks.laidMetH_plain _ _ _ (by kernel_rfl)] at hL
 refine (law_there a0 n0 c0 F0 a1 n1 c1 F1 W (max_of hS) (tab_of hL) o0 o1).mono fun e W' ⟨he,hb⟩=>?_
 subst he
 exact⟨_,rfl,_,_,_,[],_,[],hW',trodAll_cons_mk (shut_bool Tryz.underlying4 _) trodAll_mk0,args_below hb (by rw[Tryz.params3];kernel_rfl) hK (fun x hx=>hlt x (by simpa using hx)),rfl,hb.frame _,fun h=>by cases h⟩
theorem laid_met (os:Os):laidMetH Tryz.prog Rows.catalogThereRow.laid ((World.laidAll Tryz.prog os Rows.catalogThereRow.laid).forCall (fun _ _=>0) ⟨#[],#[(.slice none 0 0:Value),(.slice none 0 0:Value)],[]⟩).memory:=by
 rw[MakeChecks.laidMetH_plain _ _ _ (by kernel_rfl)];exact laidMet_laidAll _ (by kernel_rfl) (by kernel_rfl)
theorem reads (os:Os) {H:Type} (enc:TypeId × Value->H):∃ places,DataW.whole enc Tryz.prog ((World.laidAll Tryz.prog os Rows.catalogThereRow.laid).forCall (fun _ _=>0) ⟨#[],#[(.slice none 0 0:Value),(.slice none 0 0:Value)],[]⟩).memory Tryz.f3.params.toList Rows.catalogThereSpec.vars false #[(.slice none 0 0:Value),(.slice none 0 0:Value)].toList 8=some ([.nil,.nil],[],places) :=
 ⟨[],by kernel_rfl⟩
set_option maxRecDepth 100000 in
theorem lifted (os:Os) (started:os.Started) (H:Type) (enc:TypeId × Value->H) (F:Stop.Interp) :
  ReturnsInHanded {} Tryz.checked os 3 .any ((OpenSpec.ofChange Rows.catalogThereSpec).preRow enc Tryz.prog Tryz.f3 Rows.catalogThereRow.domain false Rows.catalogThereRow.laid) (((OpenSpec.ofChange Rows.catalogThereSpec).at F).post enc Tryz.prog Tryz.f3 false true false false):=by
 obtain⟨places,hx⟩:=reads os enc
 refine returnsInHanded_of_row (C:=Tryz.checked) (s:=OpenSpec.ofChange Rows.catalogThereSpec) ownk started (by kernel_rfl) Tryz.func3
  (witness_lay (enc:=enc) (C:=Tryz.checked) false #[(.slice none 0 0:Value),(.slice none 0 0:Value)] (World.shaped_of_ZipB (by kernel_rfl) (by kernel_rfl)) (by kernel_rfl)
    (OpenSpec.preRow_of_cond 8 hx (by kernel_rfl) (fun k hk=>by cases hk) (by kernel_rfl) (laid_met os))) ?_
 intro W base args ds gs before hval hW _ _ _ hL hS _
 exact contract H enc W base args ds gs before hval hW hL hS
theorem said:Rows.CatalogThereSaid :=
 OpenClaim.holds_of_cond 3 Tryz.f3 rfl rfl rfl rfl rfl rfl rfl ⟨rfl,rfl,rfl,rfl,rfl⟩ rfl rfl rfl rfl rfl (by kernel_rfl) Tryz.func3 joined_catalogThere
  (of_decide_eq_true (by kernel_rfl)) (by unfold Func.isWrapper;first | (rw[if_pos (by decide +kernel)];kernel_rfl) | (rw[if_neg (by decide +kernel)];exact⟨rfl,rfl⟩))
  (fun os started H enc _ F=>by rw[OpenClaim.pre_eq_preRow];exact lifted os started H enc F)
theorem plain (f:FuncId) (fn:Func) (hf:Tryz.pinned.checked.prog.funcNamed Rows.catalogThereRow.func=some f) (hfn:Tryz.pinned.checked.prog.funcs[f]?=some fn) :
  false=Tryz.pinned.checked.prog.looks []∧∀ (j:Nat) t,fn.params[j]?=some t->Tryz.pinned.checked.prog.wantsStandIn t=false:=by
 obtain rfl:f=3:=Option.some.inj ((show Tryz.prog.funcNamed Rows.catalogThereRow.func=some 3 by kernel_rfl).symm.trans hf) |>.symm
 obtain rfl:fn=Tryz.f3:=(Option.some.inj (Tryz.func3.symm.trans hfn)).symm
 refine⟨by kernel_rfl,fun j t ht=>?_⟩
 rw[Tryz.params3] at ht
 have hm:=Array.mem_of_getElem? ht
 have ha:(#[22,22]:Array TypeId).all (fun t=>!Tryz.prog.wantsStandIn t)=true:=by kernel_rfl
 have:=(Array.all_eq_true_iff_forall_mem.1 ha) t hm
 exact (show Tryz.prog.wantsStandIn t=false by simpa using this)
theorem card:Rows.CatalogThereCardSaid :=
 Claim7.holds_tied_plain_at .later [] _ _ _ _ said (fun _ h=>by cases h) (by kernel_rfl) (fun _ h=>by cases h) catalogThere_row_tie rfl ⟨rfl,rfl⟩ (by kernel_rfl) rfl plain (by kernel_rfl)
end Go.Proofs.YtkafnmbldpofdaaGreatDoor.catalogThere
end
