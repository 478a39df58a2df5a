/- Catalogs. -/
import Derived.Test.YtkafnmbldpofdaaGreatDoorLaCe
import Derived.Test.YtkafnmbldpofdaaGreatDoorJCatalogErrors
set_option maxRecDepth 100000
set_option maxHeartbeats 16000000
namespace Go.Proofs.YtkafnmbldpofdaaGreatDoor
section
open Go.ChangeShapes Go.WideShapes Go.RowKit
theorem zpZ:Tryz.prog.bytesOf 32=336:=by kernel_rfl
theorem zmp{H:Type}{enc:TypeId × Value->H}{W:World}{a:Option Addr}{n c:Nat}{d:DataW H}{p:List MemPlace}{ts:List TypeId}{ds:List (DataW H)}(h:DataW.Trod enc Tryz.prog W 0 (fun _=>true) true 22 (.slice a n c) d p)(hw:(DataW.weightsEach Tryz.prog (22::ts) (d::ds)).all (·<=reachBytes)=true):n*336<=140737488351232:=by
 obtain⟨fuel,hf⟩:=h
 rcases Go.Deep.open_slice Tryz.underlying22 hf with ⟨h1,-⟩|⟨a',len,cap,m,n',D,Pl,h1,-,-,-,-,hx,-⟩
 · have:=List.head_eq_of_cons_eq h1
   injection this with _ e2 _
   omega
 · have:=List.head_eq_of_cons_eq h1
   injection this with _ e2 _
   have hd:=congrArg Prod.fst hx
   simp only at hd
   subst hd
   have:=sized_slice hw (j:=0) (t:=22) (e:=32) rfl rfl Tryz.underlying22
   rw[zpZ] at this
   simp only[List.length_map,List.length_range,reachBytes] at this
   omega
theorem en_n2{H:Type}{enc:TypeId × Value->H}{W:World}{e:En}{a1 a2:Option Addr}{n1 c1 n2 c2:Nat}{d:DataW H}{p:List MemPlace}(h:DataW.Trod enc Tryz.prog W 0 (fun _=>true) true 32 (.agg (e.vals (.slice a1 n1 c1) (.slice a2 n2 c2))) d p):n2<=9223372036854775807:=by
 obtain⟨fuel,hf⟩:=h
 unfold En.vals at hf
 obtain⟨n,hfs⟩:=zkd Tryz.underlying32 hf
 obtain⟨y,hy⟩:=hfs 12 _ rfl
 obtain⟨a,m,c,e1,hm⟩:=zdO (v:=.slice a2 n2 c2) Tryz.underlying30 hy
 injection e1 with e1 e2 e3
 omega
end
section
open Go.ChangeShapes Go.WideShapes Go.RowKit
theorem zrR{H:Type}{enc:TypeId × Value->H}{W:World}{e:En}{a1 a2:Option Addr}{n1 c1 n2 c2:Nat}{d:DataW H}{p:List MemPlace}(h:DataW.Trod enc Tryz.prog W 0 (fun _=>true) true 32 (.agg (e.vals (.slice a1 n1 c1) (.slice a2 n2 c2))) d p):n1<=9223372036854775807:=by
 obtain⟨fuel,hf⟩:=h
 unfold En.vals at hf
 obtain⟨xs,n,-,-,-,hxs,hfs⟩:=DataW.trod_struct Tryz.underlying32 hf
 have hx1:xs[3]?=some (xs[3]'(by rw[hxs];decide)):=List.getElem?_eq_getElem _
 have s2:=(hfs 3 _ rfl).trans hx1
 rcases open_ints Tryz.underlying29 Tryz.underlying3 (by kernel_rfl) s2 with ⟨h1,-⟩|⟨a,len,cap,zs,h1,-,hl,hm,-⟩
 · have:=List.head_eq_of_cons_eq h1
   injection this with e1 e2 e3
   omega
 · have:=List.head_eq_of_cons_eq h1
   injection this with e1 e2 e3
   unfold maxLen at hm
   omega
end
section
open Go.RowKit
theorem zj2{w:World}{a:Option Addr}{n:Nat}{F:Nat->Ef}(h:EST w a n F)(hf:∀ k,k<n->(F k).e.name.size<=60∧(F k).n2<=12∧(F k).n1<=8):∃ X:Nat->Fu,FL w a n X:=by
 have key:∀ k,∃ t:Fu,k<n->∃ b o al gr,a=some ⟨b,o,none⟩∧b<w.heap.size∧mid w b (o+k*33)=t.1.vals al gr∧IS w al t.2.1∧GS w gr t.2.2∧t.1.name.size<=60:=by
  intro k
  by_cases hk:k<n
  · obtain⟨b,o,ha,hb,a1,c1,a2,c2,hmid,-,-,hi,hg⟩:=h.2 k hk
    obtain⟨q1,q2,q3⟩:=hf k hk
    obtain⟨l,hl,hI⟩:=hi (by omega)
    exact⟨((F k).e,l,(F k).gs),fun _=>⟨b,o,.slice a1 (F k).n1 c1,.slice a2 (F k).n2 c2,ha,hb,hmid,hI,(hg (by omega)).2,q1⟩⟩
  · exact⟨(En.zero,[],[]),fun h=>absurd h hk⟩
 obtain⟨T,hT⟩:=Classical.axiomOfChoice key
 exact⟨T,fun k hk=>hT k hk⟩
theorem zsF(a0:Option Addr)(n0 c0:Nat)(F0:Nat->Ef)(e:En)(a1 a2:Option Addr)(n1 c1 n2 c2:Nat)(name tn:ByteArray)(fv code:Int)(w:World)(hm:MaxL w)(hT:Tab w)(hL:EST w a0 n0 F0)(hz:n0*336<=140737488351232)(o1:n1<=1000->∃ l:List Int,l.length=n1∧IS w (.slice a1 n1 c1) l)(o2:n2<=1000->∃ l:List Gr,l.length=n2∧GS w (.slice a2 n2 c2) l)(u1:n1<=9223372036854775807)(u2:n2<=9223372036854775807)(hf0:0<=fv)(hf1:fv<256) :
  Calls Tryz.prog 5 #[.slice a0 n0 c0,.agg (e.vals (.slice a1 n1 c1) (.slice a2 n2 c2)),.string name,.string tn,.int .u8 fv,.int .i64 code] w fun r w'=>r=.returned (.bool true)∧Below w.heap.size w w':=by
 have hgs:∃ gs:List Gr,n2<=1000->gs.length=n2∧GS w (.slice a2 n2 c2) gs:=by
  by_cases h:n2<=1000
  · obtain⟨g,h1,h2⟩:=o2 h;exact⟨g,fun _=>⟨h1,h2⟩⟩
  · exact⟨[],fun k=>absurd k h⟩
 obtain⟨gs,hgs⟩:=hgs
 obtain⟨rows,hH⟩:=zrO (x:=⟨e,n1,n2,gs⟩) (c:=c0) hL.es hz u1 u2 (a1:=a1) (c1:=c1) hgs
 by_cases h:zp3 (zpQ ⟨e,n1,n2,gs⟩ F0) (1+n0) 13∧code≠0∧code≠6∧name.size<=60∧tn.size<=60
 · obtain⟨⟨hn,hf⟩,h0,h6,hns,hts⟩:=h
   obtain⟨X,hX⟩:=zj2 hL (fun k hk=>by obtain⟨q1,-,q2,q3⟩:=hf (k+1) (by omega);exact⟨q1,q2,q3⟩)
   obtain⟨q1,-,q2,q3⟩:=hf 0 (by omega)
   change e.name.size<=60 at q1
   change n2<=12 at q2
   change n1<=8 at q3
   obtain⟨l1,-,i1⟩:=o1 (by omega)
   obtain⟨l2,-,i2⟩:=o2 (by omega)
   exact zjT a0 n0 c0 rows _ X (e,l1,l2) _ _ name tn fv code w hm hT hH (by omega) hX q1 i1 i2 h0 h6 hns hts hf0 hf1
 · exact zk1 a0 n0 c0 _ rows _ name tn fv code w hm hT hH h
end
end Go.Proofs.YtkafnmbldpofdaaGreatDoor
section
namespace Go.Proofs.YtkafnmbldpofdaaGreatDoor.catalogErrors
open Go.ChangeShapes Go.WideShapes Go.ChangeAt Go.RowKit Go.Proofs.YtkafnmbldpofdaaGreatDoor
open Go.ChangeMaps (open_string)
set_option maxRecDepth 100000 in
theorem contract(H:Type)(enc:TypeId × Value->H)(W:World)(base:Nat)(args:Array Value)(ds gs:List (DataW H))(before:List MemPlace)(hval:∀ (j:Nat) t v,Tryz.f5.params[j]?=some t->args[j]?=some v->Value.okWide Tryz.prog W .any base t v)(hW:DataW.Whole enc Tryz.prog Tryz.f5.params.toList Rows.catalogErrorsSpec.vars false W args.toList ds gs before)(hsz:(DataW.weightsEach Tryz.prog (Tryz.f5.params.toList++(OpenSpec.ofChange Rows.catalogErrorsSpec).bare.plain.varTypes Tryz.prog) (ds++gs)).all (·<=reachBytes)=true)(hL:laidMetH Tryz.prog Rows.catalogErrorsRow.laid W)(hS:W.ShapedOpen Tryz.prog) :
  Calls Tryz.prog 5 args W fun e W'=>∃ v,e=.returned v∧Rows.catalogErrorsSpec.post enc Tryz.prog Tryz.f5 false true false false W args v W':=by
 have hW':=hW
 have hlt:∀ x∈before,x.block<W.heap.size:=fun x hx=>by simpa using hW'.lt x hx
 obtain⟨p,q,hA0,hV,rfl,hfz,hnd⟩:=hW
 have hA:DataW.TrodAll enc Tryz.prog W 0 (fun _=>true) true Tryz.f5.params.toList args.toList ds p:=hA0
 have hK:=hA
 rw[Tryz.params5] at hA hval hsz
 obtain⟨v0,vs0,d0,ds0,p0,q0,hargs,rfl,rfl,h0,r0⟩:=trodAll_cons hA
 obtain⟨v1,vs1,d1,ds1,p1,q1,rfl,rfl,rfl,h1,r1⟩:=trodAll_cons r0
 obtain⟨v2,vs2,d2,ds2,p2,q2,rfl,rfl,rfl,h2,r2⟩:=trodAll_cons r1
 obtain⟨v3,vs3,d3,ds3,p3,q3,rfl,rfl,rfl,h3,r3⟩:=trodAll_cons r2
 obtain⟨v4,vs4,d4,ds4,p4,q4,rfl,rfl,rfl,h4,r4⟩:=trodAll_cons r3
 obtain⟨v5,vs5,d5,ds5,p5,q5,rfl,rfl,rfl,h5,r5⟩:=trodAll_cons r4
 obtain⟨rfl,rfl,rfl⟩:=trodAll_nil r5
 obtain rfl:args=#[v0,v1,v2,v3,v4,v5]:=by cases args;simp_all
 obtain⟨rfl,rfl⟩:=trodVars_none hV
 obtain⟨a0,n0,c0,F0,rfl,o0⟩:=znn (hval 0 22 v0 rfl rfl) h0
 obtain⟨e1,a1,n1,c1,x1,m1,k1,rfl,o1,u1⟩:=zpd (hval 1 32 v1 rfl rfl) h1
 have hs2:=hval 2 9 v2 rfl rfl
 obtain⟨s2,rfl⟩:=okWide_string Tryz.underlying9 hs2
 have hs3:=hval 3 9 v3 rfl rfl
 obtain⟨s3,rfl⟩:=okWide_string Tryz.underlying9 hs3
 obtain⟨n4,rfl⟩:=okWide_int Tryz.underlying5 (hval 4 5 v4 rfl rfl)
 have b4:=zfC Tryz.underlying5 (hval 4 5 _ rfl rfl)
 obtain⟨n5,rfl⟩:=okWide_int Tryz.underlying34 (hval 5 34 v5 rfl rfl)
 have b5:=zfC Tryz.underlying34 (hval 5 34 _ rfl rfl)
 rw[MakeChecks.laidMetH_plain _ _ _ (by kernel_rfl)] at hL
 refine (zsF a0 n0 c0 F0 e1 a1 x1 n1 c1 m1 k1 _ _ _ _ W (zsw hS) (zsS hL) o0 (zmp h0 hsz) o1 u1 (zrR h1) (zrX h1).1 b4.1 (Int.lt_of_le_of_lt b4.2 (by decide))).mono fun e W' ⟨he,hb⟩=>?_
 subst he
 exact⟨_,rfl,_,_,_,[],_,[],hW',trodAll_cons_mk (shut_bool Tryz.underlying4 _) trodAll_mk0,zjx hb (by rw[Tryz.params5];kernel_rfl) hK (fun x hx=>hlt x (by simpa using hx)),rfl,hb.frame _,fun h=>by cases h⟩
def ztd:Value:=.agg #[.int .i64 0,.string ⟨#[]⟩,.int .i64 0,.int .i64 0,.int .i64 0,.int .i64 0,.int .i64 0,.int .i64 0,.int .i64 0,.int .i64 0,.int .i64 0,.int .i64 0,.int .i64 0,.int .i64 0,.int .i64 0,.int .i64 0,.bool false,.int .i64 0,.string ⟨#[]⟩,.string ⟨#[]⟩,.int .i64 0,.int .i64 0,.bool false,.slice none 0 0,.int .i64 0,.int .i64 0,.int .i64 0,.bool false,.string ⟨#[]⟩,.string ⟨#[]⟩,.int .i64 0,.int .i64 0,.slice none 0 0]
def dEnt{H:Type}:DataW H:=.agg [.lit (.int .i64 0),.lit (.string []),.agg [.lit (.int .i64 0),.lit (.int .i64 0),.lit (.int .i64 0),.lit (.int .i64 0),.lit (.int .i64 0),.lit (.int .i64 0),.lit (.int .i64 0),.lit (.int .i64 0),.lit (.int .i64 0),.lit (.int .i64 0),.lit (.int .i64 0),.lit (.int .i64 0),.lit (.int .i64 0),.lit (.int .i64 0),.lit (.bool false),.lit (.int .i64 0),.lit (.string []),.lit (.string []),.lit (.int .i64 0),.lit (.int .i64 0),.lit (.bool false)],.nil,.lit (.int .i64 0),.lit (.int .i64 0),.lit (.int .i64 0),.lit (.bool false),.lit (.string []),.lit (.string []),.lit (.int .i64 0),.lit (.int .i64 0),.nil]
theorem laid_met(os:Os):laidMetH Tryz.prog Rows.catalogErrorsRow.laid ((World.laidAll Tryz.prog os Rows.catalogErrorsRow.laid).forCall (fun _ _=>0) ⟨#[],#[(.slice none 0 0:Value),(ztd:Value),(.string ⟨#[]⟩:Value),(.string ⟨#[]⟩:Value),(.int .u8 0:Value),(.int .i64 0:Value)],[]⟩).memory:=by
 rw[MakeChecks.laidMetH_plain _ _ _ (by kernel_rfl)];exact laidMet_laidAll _ (by kernel_rfl) (by kernel_rfl)
theorem reads(os:Os){H:Type}(enc:TypeId × Value->H):∃ places,DataW.whole enc Tryz.prog ((World.laidAll Tryz.prog os Rows.catalogErrorsRow.laid).forCall (fun _ _=>0) ⟨#[],#[(.slice none 0 0:Value),(ztd:Value),(.string ⟨#[]⟩:Value),(.string ⟨#[]⟩:Value),(.int .u8 0:Value),(.int .i64 0:Value)],[]⟩).memory Tryz.f5.params.toList Rows.catalogErrorsSpec.vars false #[(.slice none 0 0:Value),(ztd:Value),(.string ⟨#[]⟩:Value),(.string ⟨#[]⟩:Value),(.int .u8 0:Value),(.int .i64 0:Value)].toList 8=some ([.nil,dEnt,.lit (.string []),.lit (.string []),.lit (.int .u8 0),.lit (.int .i64 0)],[],places) :=
 ⟨[],by kernel_rfl⟩
set_option maxRecDepth 100000 in
theorem lifted(os:Os)(started:os.Started)(H:Type)(enc:TypeId × Value->H)(F:Stop.Interp) :
  ReturnsInHanded {} Tryz.checked os 5 .any ((OpenSpec.ofChange Rows.catalogErrorsSpec).preRow enc Tryz.prog Tryz.f5 Rows.catalogErrorsRow.domain false Rows.catalogErrorsRow.laid) (((OpenSpec.ofChange Rows.catalogErrorsSpec).at F).post enc Tryz.prog Tryz.f5 false true false false):=by
 obtain⟨places,hx⟩:=reads os enc
 refine returnsInHanded_of_row (C:=Tryz.checked) (s:=OpenSpec.ofChange Rows.catalogErrorsSpec) ownk started (by kernel_rfl) Tryz.func5
  (zhS (enc:=enc) (C:=Tryz.checked) false #[(.slice none 0 0:Value),(ztd:Value),(.string ⟨#[]⟩:Value),(.string ⟨#[]⟩:Value),(.int .u8 0:Value),(.int .i64 0:Value)] (World.shaped_of_ZipB (by kernel_rfl) (by kernel_rfl)) (by kernel_rfl)
    (OpenSpec.preRow_of_cond 8 hx (by kernel_rfl) (fun k hk=>by cases hk) (by kernel_rfl) (laid_met os))) ?_
 intro W base args ds gs before hval hW _ _ hsz hL hS _
 exact contract H enc W base args ds gs before hval hW hsz hL hS
theorem said:Rows.CatalogErrorsSaid :=
 OpenClaim.holds_of_cond 5 Tryz.f5 rfl rfl rfl rfl rfl rfl rfl ⟨rfl,rfl,rfl,rfl,rfl⟩ rfl rfl rfl rfl rfl (by kernel_rfl) Tryz.func5 joined_catalogErrors
  (of_decide_eq_true (by kernel_rfl)) (by unfold Func.isWrapper;first|(rw[if_pos (by decide +kernel)];kernel_rfl)|(rw[if_neg (by decide +kernel)];exact⟨rfl,rfl⟩))
  (fun os started H enc _ F=>by rw[OpenClaim.pre_eq_preRow];exact lifted os started H enc F)
theorem plain(f:FuncId)(fn:Func)(hf:Tryz.pinned.checked.prog.funcNamed Rows.catalogErrorsRow.func=some f)(hfn:Tryz.pinned.checked.prog.funcs[f]?=some fn) :
  false=Tryz.pinned.checked.prog.looks []∧∀ (j:Nat) t,fn.params[j]?=some t->Tryz.pinned.checked.prog.wantsStandIn t=false:=by
 obtain rfl:f=5:=Option.some.inj ((show Tryz.prog.funcNamed Rows.catalogErrorsRow.func=some 5 by kernel_rfl).symm.trans hf) |>.symm
 obtain rfl:fn=Tryz.f5:=(Option.some.inj (Tryz.func5.symm.trans hfn)).symm
 refine⟨by kernel_rfl,fun j t ht=>?_⟩
 rw[Tryz.params5] at ht
 have hm:=Array.mem_of_getElem? ht
 have ha:(#[22,32,9,9,5,34]:Array TypeId).all (fun t=>!Tryz.prog.wantsStandIn t)=true:=by kernel_rfl
 have:=(Array.all_eq_true_iff_forall_mem.1 ha) t hm
 exact (show Tryz.prog.wantsStandIn t=false by simpa using this)
theorem card:Rows.CatalogErrorsCardSaid :=
 Claim7.holds_tied_plain_at .later [] _ _ _ _ said (fun _ h=>by cases h) (by kernel_rfl) (fun _ h=>by cases h) catalogErrors_row_tie rfl ⟨rfl,rfl⟩ (by kernel_rfl) rfl plain (by kernel_rfl)
end Go.Proofs.YtkafnmbldpofdaaGreatDoor.catalogErrors
end
