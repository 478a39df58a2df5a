/- Contract of the reference of chapter 35: Make. -/
import Derived.Test.YtkafnmbldpofdaaGreatDoorSrt
import Derived.Test.YtkafnmbldpofdaaGreatDoorAcA
import Derived.Deep.QuietTactic
import Derived.BigQuiet
import Derived.Test.YtkafnmbldpofdaaGreatDoorLaCa
namespace Go.Proofs.YtkafnmbldpofdaaGreatDoor
open Go.RowKit
set_option maxRecDepth 8000
set_option maxHeartbeats 16000000
section
def rw3 (x:Rw):Array Value:=#[.int .i64 x.1,.string x.2.1,.string x.2.2]
def RwAt3 (w:World) (b o:Nat) (c:Rw):Prop:=∀ i u,(rw3 c)[i]?=some u->w.cell? ⟨b,o+i,none⟩=some u
theorem rw_at3 {w:World} {b o:Nat} {x:Rw} (h:w.cell? ⟨b,o,none⟩=some (.int .i64 x.1)∧w.cell? ⟨b,o+1,none⟩=some (.string x.2.1)∧w.cell? ⟨b,o+2,none⟩=some (.string x.2.2)):RwAt3 w b o x:=by
 intro i u hu
 unfold rw3 at hu
 match i,hu with
 | 0,hu=>cases hu;exact h.1
 | 1,hu=>cases hu;exact h.2.1
 | 2,hu=>cases hu;exact h.2.2
theorem rwg_neq (c:Rw) (w:World):(binOp .neq 97 (.agg (rw3 c)) (.agg (rw3 c))).run Tryz.prog w=.ok (.bool false) w:=by
 rw[run_neq_struct,run_equalIn_struct w 9999 97 _ _ (by simp [Program.fieldsOf,Tryz.underlying97]) (by kernel_rfl)]
 unfold rw3
 simp [Program.fieldsOf,Tryz.underlying97,Op.eqFields,go_sem]
theorem neqRw (ev:Operand->Value) (w:World) (dst x y t pos af gd) (c:Rw) (hx:ev x=.agg (rw3 c)) (hy:ev y=.agg (rw3 c)) :
  (execOp ev ⟨dst,.binOp .neq 97 x y 97,t,pos,af,gd⟩).run Tryz.prog w=.ok (.value (.bool false)) w:=by
 unfold execOp
 simp only[hx,hy,Sem.run_bind,rwg_neq,Sem.run_pure]
 simp [eqGuard,go_sem]
theorem ldRw3 (ev:Operand->Value) (w:World) (dst x t pos af gd) (b o:Nat) (c:Rw) (hx:ev x=.pointer (some ⟨b,o,none⟩)) (hc:∀ i u,(rw3 c)[i]?=some u->w.cell? ⟨b,o+i,none⟩=some u) :
  (execOp ev ⟨dst,.load 97 x,t,pos,af,gd⟩).run Tryz.prog w=.ok (.value (.agg (rw3 c))) w:=by
 unfold execOp
 have hr:=run_loadAt_mid (P:=Tryz.prog) w b o 97 (rw3 c).toList _ (fun j v hv=>by rw[Array.getElem?_toList] at hv;exact hc j v hv) Tryz.underlying97 rfl (by kernel_rfl)
 simp only[hx,Sem.run_bind,hr,Result.andThen_ok,Sem.run_pure,Array.toArray_toList]
theorem r35_same (v1 v2:Value) (l:List Rw) (w:World) (h1:RwS w v1 l) (h2:RwS w v2 l) :
  Calls Tryz.prog 18 #[v1,v2] w fun r w'=>r=.returned (.bool true)∧Below w.heap.size w w':=by
 obtain⟨a1,c1,rfl,hz,hc1⟩:=h1
 obtain⟨a2,c2,rfl,-,hc2⟩:=h2
 have H1:=Lib.hid hc1
 have H2:=Lib.hid hc2
 clear hc1 hc2
 go_enter Tryz.func18,Tryz.ntmps18
 go_wp2_with fail
 go_loopw [5] (fun i wr=>∃ k:Nat,k<=l.length∧i=.int .i64 k∧∃ q,wr=w.drewN q) (fun i _=>l.length - (intOf i).toNat)
 case atStart=>exact⟨0,Nat.zero_le _,rfl,0,rfl⟩
 case round =>
  obtain⟨k,hk,rfl,q,rfl⟩:=hrel
  by_cases hlt:k<l.length
  · obtain⟨b,o,rfl,hb,hcell⟩:=H1.out (by omega)
    obtain⟨b',o',rfl,hb',hcell'⟩:=H2.out (by omega)
    have q1:=rw_at3 (hcell k hlt)
    have q2:=rw_at3 (hcell' k hlt)
    generalize l[k]=ck at q1 q2
    have Q1:RwAt3 (w.drewN q) b (o+k*3) ck:=q1
    have Q2:RwAt3 (w.drewN q) b' (o'+k*3) ck:=q2
    have j1:(0:Int)<=(k:Int):=by omega
    have j2:(k:Int)<(l.length:Int):=by omega
    clear q1 q2 hcell hcell'
    go_upto_region 6 with fail
    refine wp_region_held_drew (S:=fun w'=>RwAt3 w' b (o+k*3) ck∧RwAt3 w' b' (o'+k*3) ck) (by kernel_rfl) ?_ (fun hHeld=>?_)
    · exact⟨Q1,Q2⟩
    (refine rgy (i:=0) (some 17) ?_;(try simp only[Act.put,pz]))
    (refine rgy (i:=1) (some 18) ?_;(try simp only[Act.put,pz]))
    (refine rgy (i:=2) (some 19) ?_;(try simp only[Act.put,pz]))
    refine rg_y (i:=3) (some 20) (v:=.agg (rw3 ck)) rfl rfl (by kernel_rfl) (by kernel_rfl) (by kernel_rfl) (fun _ _ _ h=>h) (by kernel_rfl) (fun w' hS=>?_) (by assumption) ?_
    · exact ldRw3 _ w' _ _ _ _ _ _ b (o+k*3) ck rfl hS.1
    try simp only[Act.put,List.setIfInBounds_toArray,List.set_cons_zero,List.set_cons_succ]
    (refine rgy (i:=4) (some 21) ?_;(try simp only[Act.put,pz]))
    (refine rgy (i:=5) (some 22) ?_;(try simp only[Act.put,pz]))
    (refine rgy (i:=6) (some 23) ?_;(try simp only[Act.put,pz]))
    refine rg_y (i:=7) (some 24) (v:=.agg (rw3 ck)) rfl rfl (by kernel_rfl) (by kernel_rfl) (by kernel_rfl) (fun _ _ _ h=>h) (by kernel_rfl) (fun w' hS=>?_) (by assumption) ?_
    · exact ldRw3 _ w' _ _ _ _ _ _ b' (o'+k*3) ck rfl hS.2
    try simp only[Act.put,List.setIfInBounds_toArray,List.set_cons_zero,List.set_cons_succ]
    refine rg_y (i:=8) (some 25) (v:=.bool false) rfl rfl (by kernel_rfl) (by kernel_rfl) (by kernel_rfl) (fun _ _ _ h=>h) (by kernel_rfl) (fun w' hS=>?_) (by assumption) ?_
    · exact neqRw _ w' _ _ _ _ _ _ _ ck rfl rfl
    try simp only[Act.put,List.setIfInBounds_toArray,List.set_cons_zero,List.set_cons_succ]
    refine wpAnyH_done (by kernel_rfl) ?_ _
    go_wp2_with fail
    go_roundw
    case rel=>exact⟨k+1,by omega,by go_num,q+1,rfl⟩
    case measure=>simp [intOf];omega
  · obtain rfl:k=l.length:=by omega
    go_wp2_with fail
    go_ret
    exact⟨rfl,below_drewN (Below.refl _ _) _⟩
end
section
def FL (w:World) (a:Option Addr) (n:Nat) (X:Nat->Fu):Prop:=∀ k,k<n->∃ b o al gr,a=some ⟨b,o,none⟩∧b<w.heap.size∧mid w b (o+k*33)=(X k).1.vals al gr∧IS w al (X k).2.1∧GS w gr (X k).2.2∧(X k).1.name.size<=60
theorem FL.below {w w':World} {a:Option Addr} {n:Nat} {X:Nat->Fu} (h:FL w a n X) (hb:Below w.heap.size w w'):FL w' a n X:=fun k hk=>by
 obtain⟨b,o,al,gr,h1,h2,h3,h4,h5,h6⟩:=h k hk
 exact⟨b,o,al,gr,h1,Nat.lt_of_lt_of_le h2 hb.size,mid_below hb h3 (by rw[vals_size];decide),h4.below hb,h5.below hb,h6⟩
def makS (id:Int) (R:List Rw) (x:Fu):List Rw:=if (addR R id x).2=0 then apl R (addR R id x).1 else R
def makN (id:Int) (X:Nat->Fu):Nat->List Rw
 | 0=>[]
 | k+1=>makS id (makN id X k) (X k)
theorem addR_len (R:List Rw) (id:Int) (x:Fu):(addR R id x).1.length<=1:=by
 unfold addR
 repeat' split
 all_goals simp
theorem makS_len (id:Int) (R:List Rw) (x:Fu):(makS id R x).length<=R.length+1:=by
 unfold makS
 split
 · have h1:=apl_len R (addR R id x).1
   have h2:=addR_len R id x
   omega
 · omega
theorem makN_len (id:Int) (X:Nat->Fu):∀ n,(makN id X n).length<=n
 | 0=>Nat.le_refl _
 | k+1=>by have h1:=makN_len id X k;have h2:=makS_len id (makN id X k) (X k);rw[makN];omega
attribute [local go_sem ↓] ldEnt ldEntM stEnt stEntRow bldEnt
attribute [local go_sem] Held_drew isHead_mk headOf_mk offOf_mk isPtr_mk cellsOfV_mk isAggV_mk row_new row_new2 row_new2' row_drew row_drewN vals_size allOne_nil allOne_cons one_int one_bool one_string one_pointer one_slice one_func
theorem r35_make (id:Int) (a:Option Addr) (n c:Nat) (X:Nat->Fu) (w:World) (hn:n<=500) (hF:FL w a n X) :
  Calls Tryz.prog 10 #[.int .i64 id,.slice a n c] w fun r w'=>∃ v',r=.returned v'∧RwS w' v' (makN id X n)∧(∀ q,v'.ownBlock=some q->q<w'.heap.size)∧Below w.heap.size w w':=by
 have HF:=Lib.hid hF
 clear hF
 go_enter Tryz.func10,Tryz.ntmps10
 go_wp2_with fail
 go_loopw [5,6] (fun v i wr=>∃ (k:Nat),k<=n∧i=.int .i64 k∧RwS wr v (makN id X k)∧(∀ q,v.ownBlock=some q->q<wr.heap.size)∧Below w.heap.size w wr) (fun _ i _=>n - (intOf i).toNat)
 case atStart=>exact⟨0,Nat.zero_le _,rfl,⟨_,_,rfl,by show (0:Nat)<=_;omega,fun h=>by cases h⟩,fun q hq=>by have h2:w.heap.size=q:=(by simpa [Value.ownBlock] using hq);simp;omega,by exact belA⟩
 case round =>
  obtain⟨k,hk,rfl,hR,hq,B⟩:=hrel
  obtain⟨va,vc,rfl,-⟩:=_root_.id hR
  have HR:=Lib.hid hR
  have HB:=Lib.hid B
  have HQ:=Lib.hid hq
  have hml:=makN_len id X k
  clear hR B hq
  by_cases hlt:k<n
  · obtain⟨b,o,al,gr,rfl,hb,hmid,hI,hG,hsz⟩:=(HF.out.below HB.out) k hlt
    have hone:=vals_one (X k).1 al gr (is_one hI) (gs_one hG)
    have hz33:(mid wr b (o+k*33)).size=33:=by rw[hmid];exact vals_size _ _ _
    have j1:(0:Int)<=(k:Int):=by omega
    have j2:(k:Int)<(n:Int):=by omega
    have hadd:=ca_ref_add (.slice va (makN id X k).length vc) (makN id X k) id (X k) al gr wr hsz hI hG HR.out
    have hal:=addR_len (makN id X k) id (X k)
    have hstep:makN id X (k+1)=makS id (makN id X k) (X k):=rfl
    unfold makS at hstep
    generalize makN id X k=D at hadd hal hstep HR HQ hml ⊢
    generalize addR D id (X k)=ga at hadd hal hstep
    obtain⟨cs,e⟩:=ga
    dsimp only at hal hstep
    have HAD:=Lib.hid hadd
    clear hadd hI hG hsz
    by_cases he:e=0
    · rw[if_pos he] at hstep
      subst he
      have HST:=Lib.hid hstep
      clear hstep
      go_wp2_with (first
       | (go_at_call 48;(refine HAD.out.mono ?_);rintro _ w2 ⟨ov,rfl,hc,hb2⟩;have HC2:=Lib.hid hc;have B2:=Lib.hid hb2;clear hc hb2)
       | (go_at_call 13;(refine (r35_apply _ D _ cs _ (HR.out.below B2.out) HC2.out (by omega) (by omega)).mono ?_);rintro _ w3 ⟨v3,rfl,hr3,ho3,hb3⟩;have R3:=Lib.hid hr3;have O3:=Lib.hid (fun q hq=>(ho3 q hq).2);have B3:=Lib.hid (bt B2.out hb3);clear hr3 ho3 hb3))
      go_roundw
      case rel=>exact⟨k+1,by omega,by go_num,by rw[HST.out];exact R3.out,O3.out,bt HB.out B3.out⟩
      case measure=>simp [intOf];omega
    · rw[if_neg he] at hstep
      have t1:(e==0)=false:=beq_eq_false_iff_ne.2 he
      have HST:=Lib.hid hstep
      clear hstep he
      go_wp2_with (go_at_call 48;(refine HAD.out.mono ?_);rintro _ w2 ⟨ov,rfl,hc,hb2⟩;have B2:=Lib.hid hb2;clear hc hb2)
      go_roundw
      case rel=>exact⟨k+1,by omega,by go_num,by rw[HST.out];exact HR.out.below B2.out,fun q hq=>Nat.lt_of_lt_of_le (HQ.out q hq) B2.out.size,bt HB.out B2.out⟩
      case measure=>simp [intOf];omega
  · obtain rfl:k=n:=by omega
    go_wp2_with fail
    go_ret
    exact⟨_,rfl,HR.out,HQ.out,HB.out⟩
end
end Go.Proofs.YtkafnmbldpofdaaGreatDoor
