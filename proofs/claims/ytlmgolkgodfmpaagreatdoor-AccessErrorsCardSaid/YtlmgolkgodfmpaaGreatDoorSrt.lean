/- Several texts in one: RwL Srt. -/
import Derived.Test.YtlmgolkgodfmpaaGreatDoorSh
import Derived.Test.YtlmgolkgodfmpaaGreatDoorSo
import Derived.Deep.QuietTactic
import Derived.BigQuiet
import Derived.Test.YtlmgolkgodfmpaaGreatDoorKs
import Derived.Test.YtlmgolkgodfmpaaGreatDoorAcA
section
/- Records of catalogs among the arguments, however many; Few of them; the distinct ones; the sorted ones. -/
namespace Go.Proofs.YtlmgolkgodfmpaaGreatDoor
open Go.RowKit
set_option maxHeartbeats 4000000
set_option maxRecDepth 8000
def RwAt (w:World) (b o:Nat) (x:Rw):Prop:=w.cell? ⟨b,o,none⟩=some (.int .i64 x.1)∧w.cell? ⟨b,o+1,none⟩=some (.string x.2.1)∧w.cell? ⟨b,o+2,none⟩=some (.string x.2.2)
theorem RwAt.below {w w':World} {b o:Nat} {x:Rw} (h:RwAt w b o x) (hb:Below w.heap.size w w'):RwAt w' b o x:=⟨below_cell hb h.1,below_cell hb h.2.1,below_cell hb h.2.2⟩
def RwL (w:World) (a:Option Addr) (n:Nat) (F:Nat→Rw):Prop:=n≤9223372036854775807∧∀ k,k<n→∃ b o,a=some ⟨b,o,none⟩∧b<w.heap.size∧RwAt w b (o+k*3) (F k)
theorem RwL.below {w w':World} {a:Option Addr} {n:Nat} {F:Nat→Rw} (h:RwL w a n F) (hb:Below w.heap.size w w'):RwL w' a n F :=
 ⟨h.1,fun k hk=>by
  obtain⟨b,o,h1,h2,h3⟩:=h.2 k hk
  exact⟨b,o,h1,by have:=hb.size;omega,h3.below hb⟩⟩
def rlst (F:Nat→Rw) (n:Nat):List Rw:=(List.range n).map F
theorem rlst_len (F:Nat→Rw) (n:Nat):(rlst F n).length=n:=by unfold rlst;simp
theorem rlst_get (F:Nat→Rw) (n k:Nat) (h:k<(rlst F n).length):(rlst F n)[k]=F k:=by
 have:∀ (h:k<((List.range n).map F).length),((List.range n).map F)[k]=F k:=fun h=>by simp
 exact this h
theorem RwL.rws {w:World} {a:Option Addr} {n:Nat} {F:Nat→Rw} (h:RwL w a n F) (c:Nat) (hn:n≤1000000):RwS w (.slice a n c) (rlst F n):=by
 refine⟨a,c,by rw[rlst_len],by rw[rlst_len];exact hn,fun h0=>?_⟩
 rw[rlst_len] at h0
 obtain⟨b,o,ha,hb,-⟩:=h.2 0 h0
 refine⟨b,o,ha,hb,fun k hk=>?_⟩
 rw[rlst_len] at hk
 obtain⟨b',o',ha',-,h3⟩:=h.2 k hk
 rw[ha] at ha'
 cases ha'
 rw[rlst_get]
 exact h3
def fewR (F:Nat→Rw) (n:Nat) (m:Int):Prop:=(n:Int)≤m∧∀ k,k<n→(F k).2.1.size≤60∧(F k).2.2.size≤300
def FewRR (F:Nat→Rw) (n:Nat) (m:Int) (w w':World) (r:Ending):Prop:=∃ b:Bool,r=.returned (.bool b)∧(b=true→fewR F n m)∧w'=w
theorem FewRR.no {F:Nat→Rw} {n:Nat} {m:Int} {w:World}:FewRR F n m w w (.returned (.bool false)):=⟨false,rfl,(fun h=>by cases h),rfl⟩
theorem rfew34 (a:Option Addr) (n c:Nat) (F:Nat→Rw) (m:Int) (w:World) (hL:RwL w a n F) :
  Calls Tryz.prog 20 #[.slice a n c,.int .i64 m] w fun r w'=>FewRR F n m w w' r:=by
 have HL:=Lib.hid hL
 have hn63:=hL.1
 clear hL
 go_enter Tryz.func20,Tryz.ntmps20
 go_wp2_with fail
 go_loopw [5] (fun i wr=>∃ k:Nat,k≤n∧i=.int .i64 k∧(∀ j,j<k→(F j).2.1.size≤60∧(F j).2.2.size≤300)∧wr=w) (fun i _=>n - (intOf i).toNat)
 case atStart=>exact⟨0,Nat.zero_le _,rfl,(fun j hj=>absurd hj (by omega)),rfl⟩
 case round =>
  obtain⟨k,hk,rfl,hok,rfl⟩:=hrel
  have HOK:=Lib.hid hok
  clear hok
  by_cases hlt:k<n
  · obtain⟨b,o,rfl,hb,h1,h2,h3⟩:=HL.out.2 k hlt
    by_cases s0:(F k).2.1.size≤60
    rotate_left
    · have f6:decide (60<((F k).2.1.size:Int))=true:=by rw[decide_eq_true_eq];omega
      go_wp2_with fail
      go_ret
      exact FewRR.no
    have f6:decide (60<((F k).2.1.size:Int))=false:=by rw[decide_eq_false_iff_not];omega
    by_cases s1:(F k).2.2.size≤300
    rotate_left
    · have f7:decide (300<((F k).2.2.size:Int))=true:=by rw[decide_eq_true_eq];omega
      go_wp2_with fail
      go_ret
      exact FewRR.no
    have f7:decide (300<((F k).2.2.size:Int))=false:=by rw[decide_eq_false_iff_not];omega
    have HS:Hid ((F k).2.1.size≤60∧(F k).2.2.size≤300):=Lib.hid ⟨s0,s1⟩
    clear s0 s1
    go_wp2_with fail
    go_roundw
    case rel =>
     refine⟨k+1,by omega,by go_num,fun j hj=>?_,trivial⟩
     rcases Nat.lt_or_ge j k with h | h
     · exact HOK.out j h
     · obtain rfl:j=k:=by omega
       exact HS.out
    case measure=>simp [intOf];omega
  · obtain rfl:k=n:=by omega
    by_cases s0:(k:Int)≤m
    rotate_left
    · have f6:decide ((k:Int)≤m)=false:=by rw[decide_eq_false_iff_not];omega
      go_wp2_with fail
      go_ret
      exact FewRR.no
    have f6:decide ((k:Int)≤m)=true:=by rw[decide_eq_true_eq];omega
    have HS:Hid ((k:Int)≤m):=Lib.hid s0
    clear s0
    go_wp2_with fail
    go_ret
    exact⟨_,rfl,fun _=>⟨HS.out,HOK.out⟩,rfl⟩
theorem bdr (B:Nat) (w:World) (n:Nat):Below B w (w.drewN n):=⟨rfl,rfl,rfl,Nat.le_refl _,fun _ _=>rfl⟩
theorem any_snocR (l:List Rw) (j:Nat) (h:j<l.length) (p:Rw→Bool):(l.take (j+1)).any p=((l.take j).any p || p l[j]):=by
 rw[List.take_succ_eq_append_getElem h,List.any_append];simp
theorem rdist (v:Value) (l:List Rw) (w:World) (hn:l.length≤1000) (hS:RwS w v l) :
  Calls Tryz.prog 22 #[v] w fun r w'=>∃ v',r=.returned v'∧RwS w' v' (dst l l.length)∧(∀ q,v'.ownBlock=some q→w.heap.size≤q∧q<w'.heap.size)∧Below w.heap.size w w':=by
 obtain⟨a,c,rfl,-,hc⟩:=hS
 have HC:=Lib.hid hc
 clear hc
 go_enter Tryz.func22,Tryz.ntmps22
 go_wp2_with fail
 go_loopw [3,4] (fun v i wr=>∃ (k:Nat),k≤l.length∧i=.int .i64 k∧wr.ownsRow w.heap.size 69 3 v (dst l k).length (rv (dst l k))∧Below w.heap.size w wr) (fun _ i _=>l.length - (intOf i).toNat)
 case atStart=>exact⟨0,Nat.zero_le _,rfl,World.ownsRow_made w #[] 0 (Nat.le_refl _) (Nat.zero_le _) rfl,by exact belA⟩
 case round =>
  obtain⟨k,hk,rfl,hown,B⟩:=hrel
  obtain⟨va,vc,rfl⟩:=owns_sl hown
  have z0:=B.size
  have HO:=Lib.hid hown
  have HB:=Lib.hid B
  have HL:=dst_len l k
  clear hown B
  by_cases hlt:k<l.length
  · obtain⟨b,o,rfl,hb,hcell⟩:=HC.out (by omega)
    have hcell':∀ j (h:j<l.length),wr.cell? ⟨b,o+j*3,none⟩=some (.int .i64 l[j].1)∧wr.cell? ⟨b,o+j*3+1,none⟩=some (.string l[j].2.1)∧wr.cell? ⟨b,o+j*3+2,none⟩=some (.string l[j].2.2):=fun j h=>by
     obtain⟨q0,q1,q2⟩:=hcell j h
     exact⟨(HB.out.cell hb).trans q0,(HB.out.cell hb).trans q1,(HB.out.cell hb).trans q2⟩
    have HCL:=Lib.hid hcell'
    obtain⟨p0,p1,p2⟩:=hcell' k hlt
    clear hcell hcell'
    have j1:(0:Int)≤(k:Int):=by omega
    have j2:(k:Int)<(l.length:Int):=by omega
    obtain⟨wo,hwo⟩:∃ wo,wo=wr:=⟨_,rfl⟩
    subst hwo
    go_wp2_with fail
    go_loopw [5,6] (fun ag j wr=>∃ (i:Nat),i≤k∧j=.int .i64 i∧ag=.bool (agn l i l[k])∧∃ q,wr=wo.drewN q) (fun _ j _=>k - (intOf j).toNat)
    case atStart=>exact⟨0,Nat.zero_le _,rfl,rfl,0,rfl⟩
    case round =>
     obtain⟨i,hik,rfl,rfl,q,rfl⟩:=hrel
     by_cases hi:i<k
     · obtain⟨r0,r1,r2⟩:=HCL.out i (by omega)
       have i1:(0:Int)≤(i:Int):=by omega
       have i2:(i:Int)<(l.length:Int):=by omega
       have hA:agn l (i+1) l[k]=(agn l i l[k] || samR l[i] l[k]):=any_snocR l i (by omega) _
       generalize agn l i l[k]=ag at hA ⊢
       cases ag
       · by_cases e1:l[i].1=l[k].1
         · have t1:(l[i].1==l[k].1)=true:=by rw[beq_iff_eq];exact e1
           have t2:=tl_beq l[i].2.1 l[k].2.1
           by_cases e2:l[i].2.1=l[k].2.1
           · rw[decide_eq_true e2] at t2
             have HA:Hid (agn l (i+1) l[k]=true):=Lib.hid (by rw[hA,Bool.false_or];unfold samR;rw[decide_eq_true e1,decide_eq_true (congrArg Ds.bl e2)];rfl)
             clear hA e1 e2
             go_wp2_with fail
             go_quiet (fail)
             go_wp2_with fail
             go_roundw
             case rel=>exact⟨i+1,by omega,by go_num,by rw[HA.out],_,rfl⟩
             case measure=>simp [intOf];omega
           · rw[decide_eq_false e2] at t2
             have HA:Hid (agn l (i+1) l[k]=false):=Lib.hid (by rw[hA,Bool.false_or];unfold samR;rw[decide_eq_true e1,decide_eq_false (fun e=>e2 (Ds.bl_inj e))];rfl)
             clear hA e1 e2
             go_wp2_with fail
             go_quiet (fail)
             go_wp2_with fail
             go_roundw
             case rel=>exact⟨i+1,by omega,by go_num,by rw[HA.out],_,rfl⟩
             case measure=>simp [intOf];omega
         · have t1:(l[i].1==l[k].1)=false:=by rw[beq_eq_false_iff_ne];exact e1
           have HA:Hid (agn l (i+1) l[k]=false):=Lib.hid (by rw[hA,Bool.false_or];unfold samR;rw[decide_eq_false e1];rfl)
           clear hA e1
           go_wp2_with fail
           go_quiet (fail)
           go_wp2_with fail
           go_roundw
           case rel=>exact⟨i+1,by omega,by go_num,by rw[HA.out],_,rfl⟩
           case measure=>simp [intOf];omega
       · have HA:Hid (agn l (i+1) l[k]=true):=Lib.hid (by rw[hA];rfl)
         clear hA
         go_wp2_with fail
         go_quiet (fail)
         go_wp2_with fail
         go_roundw
         case rel=>exact⟨i+1,by omega,by go_num,by rw[HA.out],_,rfl⟩
         case measure=>simp [intOf];omega
     · obtain rfl:i=k:=by omega
       cases hA:agn l i l[i]
       · have HD:=Lib.hid (dst_yes hlt hA)
         clear hA
         go_wp2_with (at_builtin;refine wp_appX _ rfl (.tmp 48) (.tmp 53) 36 69 _ _ 3 40 rfl Tryz.underlying36 rw_i rw_i0 rw_i1 rw_i2 rfl (by decide) w.heap.size (.slice va (dst l i).length vc) (.slice (some ⟨wo.heap.size,0,none⟩) 1 1) (dst l i).length 1 (rv (dst l i)) (rv [(l[i].1,l[i].2.1,l[i].2.2)]) rfl (own_keep HO.out (fun x hx=>(below_al' (wo.drewN q) _).block x (own_base HO.out x hx).2)) rfl (cs_row1 (wo.drewN q) (l[i].1,l[i].2.1,l[i].2.2) _ _ rfl) (rv_one _) (by unfold maxLen;omega) (by omega) (by simp;omega) ?_;intro a5 c5 w5 hown hg hat;have B5:=Lib.hid ((((HB.out.trans (bdr _ _ q)).alloc z0 _).grown hg (by simp;omega) (fun q hq=>(own_base HO.out q hq).1)):Below w.heap.size w w5);have HOW:=Lib.hid hown;clear hown hg hat)
         go_roundw
         case rel=>exact⟨i+1,by omega,by go_num,by rw[HD.out,List.length_append,rv_app];exact HOW.out,B5.out⟩
         case measure=>simp [intOf];omega
       · have HD:=Lib.hid (dst_no hlt hA)
         clear hA
         go_wp2_with fail
         go_roundw
         case rel=>exact⟨i+1,by omega,by go_num,by rw[HD.out];exact HO.out,HB.out.trans (bdr _ _ q)⟩
         case measure=>simp [intOf];omega
  · obtain rfl:k=l.length:=by omega
    go_wp2_with fail
    go_ret
    exact⟨_,rfl,rws_of_cells (by omega) (own_cells HO.out),fun q hq=>own_base HO.out q hq,HB.out⟩
end Go.Proofs.YtlmgolkgodfmpaaGreatDoor
end
section
/- Contract of the reference of chapter 34: Sorted. Printed by wip/mksrt.py. -/
namespace Go.Proofs.YtlmgolkgodfmpaaGreatDoor
open Go.RowKit
set_option maxHeartbeats 8000000
set_option maxRecDepth 8000
set_option linter.unusedSimpArgs false
theorem own_zeroR {w:World} {e:TypeId} {size q base:Nat} (hq:w.heap.size=q) (hb:base≤q):(w.alloc (.cells #[] e)).ownsRow base e size (.slice (some ⟨q,0,none⟩) 0 0) 0 []:=by
 subst hq
 exact⟨by simp,.inr ⟨w.heap.size,0,#[],rfl,hb,heap_alloc_new w _,Nat.le_refl _,by unfold maxLen;omega,by simp,by simp⟩⟩
theorem CS.grown {w w':World} {size m:Nat} {b o c:Nat} {news:List Value} {row:Option Nat} (h:CS w size (.slice (some ⟨b,o,none⟩) m c) m news) (hg:w.grownBy w' row) (hne:some b≠row) (hlt:b<w.heap.size):CS w' size (.slice (some ⟨b,o,none⟩) m c) m news:=by
 obtain⟨a,c',e,h2,h3⟩:=h
 cases e
 refine⟨_,_,rfl,h2,fun h0=>?_⟩
 obtain⟨ad,e,p⟩:=h3 h0
 cases e
 exact⟨_,rfl,fun j u hu=>by
  have:=p j u hu
  rw[Addr.add_lit] at this ⊢
  exact (World.cell?_of_block (a:=(⟨b,o+j,none⟩:Addr)) (hg.block b hlt hne)).trans this⟩
theorem own_le {w:World} {base b e size n:Nat} {v:Value} {xs:List Value} (h:w.ownsRow base e size v n xs) (hb:b≤base):w.ownsRow b e size v n xs:=by
 refine⟨h.1,?_⟩
 rcases h.2 with h0 | ⟨g,cap,cur,rfl,h1,hr⟩
 · exact .inl h0
 · exact .inr ⟨g,cap,cur,rfl,Nat.le_trans hb h1,hr⟩
theorem own_someR {w:World} {base e size n c:Nat} {a:Option Addr} {xs:List Value} (h:w.ownsRow base e size (.slice a n c) n xs) (hn:0<n):∃ g,a=some ⟨g,0,none⟩∧n≤c∧c≤maxLen:=by
 rcases h.2 with ⟨h1,h2⟩ | ⟨g,cap,cur,h1,_,_,h3,h4,_⟩
 · cases h1;omega
 · cases h1;exact⟨g,rfl,h3,h4⟩
theorem own_capR {w:World} {base e size n c g:Nat} {xs:List Value} (h:w.ownsRow base e size (.slice (some ⟨g,0,none⟩) n c) n xs):n≤c∧c≤maxLen:=by
 rcases h.2 with ⟨h1,h2⟩ | ⟨g',cap,cur,h1,_,_,h3,h4,_⟩
 · cases h1
 · cases h1;exact⟨h3,h4⟩
theorem rv_drop:∀ (l:List Rw) (k:Nat),rv (l.drop k)=(rv l).drop (k*3)
 | _,0=>by rw[List.drop_zero,Nat.zero_mul,List.drop_zero]
 | [],k+1=>by rw[List.drop_nil];exact List.drop_nil.symm
 | x::l,k+1=>by
   rw[List.drop_succ_cons,rv_drop l k,rv,show (k+1)*3=3+k*3 by omega,← List.drop_drop];rfl
def offR (c k:Nat):Nat:=if c=k then 0 else k*3
theorem tailR {w:World} {base n g c k:Nat} {l:List Rw} (h:w.ownsRow base 69 3 (.slice (some ⟨g,0,none⟩) n c) n (rv l)) (hl:l.length=n) (hc:n≤c):CS w 3 (.slice (some ⟨g,offR c k,none⟩) (n - k) (c - k)) (n - k) (rv (l.drop k)):=by
 refine⟨_,_,rfl,by rw[rv_len,List.length_drop,hl],fun h0=>⟨_,rfl,fun j u hu=>?_⟩⟩
 have hk:offR c k=k*3:=if_neg (by omega)
 obtain⟨a,c',e,-,p⟩:=own_cells h
 obtain⟨ad,e2,q⟩:=p (by omega)
 injection e with e1
 rw[e2] at e1
 cases e1
 rw[rv_drop,List.getElem?_drop] at hu
 have:=q _ u hu
 rw[Addr.add_lit] at this ⊢
 rw[Nat.zero_add] at this
 rw[hk]
 exact this
theorem headR {w:World} {base n g c k:Nat} {l:List Rw} (h:w.ownsRow base 69 3 (.slice (some ⟨g,0,none⟩) n c) n (rv l)) (hl:l.length=n) (hk:k≤n):CS w 3 (.slice (some ⟨g,0,none⟩) k c) k (rv (l.take k)):=by
 refine⟨_,_,rfl,by rw[rv_len,List.length_take,hl,Nat.min_eq_left hk],fun h0=>⟨_,rfl,fun j u hu=>?_⟩⟩
 obtain⟨a,c',e,-,p⟩:=own_cells h
 obtain⟨ad,e2,q⟩:=p (by omega)
 injection e with e1
 rw[e2] at e1
 cases e1
 refine q j u ?_
 rw[← List.take_append_drop k l,rv_app,List.getElem?_append_left (List.getElem?_eq_some_iff.1 hu).1]
 exact hu
theorem slR_lo {w:World} {g n c k:Nat} (hk:k≤n):(Instr.slice 36 (.slice (some ⟨g,0,none⟩) n c) (some (.int .i64 (k:Int))) none none).run Tryz.prog w=.ok (.slice (some ⟨g,offR c k,none⟩) (n - k) (c - k)) w:=by
 have h3:(0:Int)≤k:=by omega
 have h4:(k:Int)≤n:=by omega
 simp only[Instr.slice,Instr.sliceBounds,Sem.run_bind,Sem.run_pure,run_underlying Tryz.underlying36,Result.andThen_ok,run_sliceBound _ _ _ _ _ h3 h4,Option.isSome,Bool.false_eq_true,if_false]
 rw[Tryz.sizeOf69]
 unfold offR
 by_cases h1:c=k
 · simp only[Result.andThen_ok,Int.toNat_natCast,if_pos h1]
 · simp only[Result.andThen_ok,Int.toNat_natCast,if_neg h1,Option.map,Addr.add_lit,Nat.zero_add]
theorem slR_hi {w:World} {g n c k:Nat} (hk:k≤n) (hc:n≤c):(Instr.slice 36 (.slice (some ⟨g,0,none⟩) n c) none (some (.int .i64 (k:Int))) none).run Tryz.prog w=.ok (.slice (some ⟨g,0,none⟩) k c) w:=by
 have h3:(0:Int)≤k:=by omega
 have h4:(k:Int)≤c:=by omega
 simp only[Instr.slice,Instr.sliceBounds,Sem.run_bind,Sem.run_pure,run_underlying Tryz.underlying36,Result.andThen_ok,run_sliceBound _ _ _ _ _ h3 h4,Option.isSome,Bool.false_eq_true,if_false,if_true]
 rw[Tryz.sizeOf69]
 by_cases h1:c=0
 · simp only[Result.andThen_ok,Int.toNat_natCast,if_pos h1,Nat.sub_zero]
 · simp only[Result.andThen_ok,Int.toNat_natCast,if_neg h1,Option.map,Addr.add_lit,Nat.zero_mul,Nat.sub_zero,Nat.zero_add]
theorem tw_at (p:Rw→Bool):∀ (l:List Rw) (j:Nat) (h:j<l.length),(j<(l.takeWhile p).length→p l[j]=true)∧(j=(l.takeWhile p).length→p l[j]=false)
 | x::l,0,_=>by
   rw[List.takeWhile_cons]
   by_cases c:p x=true
   · rw[if_pos c];exact⟨fun _=>c,fun h=>by simp at h⟩
   · rw[if_neg c];exact⟨fun h=>by simp at h,fun _=>by simpa using c⟩
 | x::l,j+1,h=>by
   have:=tw_at p l j (by simpa using h)
   rw[List.takeWhile_cons]
   by_cases c:p x=true
   · rw[if_pos c]
     exact⟨fun q=>this.1 (by simpa using q),fun q=>this.2 (by simpa using q)⟩
   · rw[if_neg c];exact⟨fun q=>by simp at q,fun q=>by simp at q⟩
theorem tw_le (p:Rw→Bool) (l:List Rw):(l.takeWhile p).length≤l.length:=(List.takeWhile_prefix p).length_le
theorem insR_eq (x:Rw) (out:List Rw):insR x out=(out.take (out.takeWhile (insP x)).length++[x])++out.drop (out.takeWhile (insP x)).length:=by
 unfold insR
 have e:out.takeWhile (insP x)++out.dropWhile (insP x)=out:=List.takeWhile_append_dropWhile
 have h1:out.take (out.takeWhile (insP x)).length=out.takeWhile (insP x):=by
  conv=>lhs;rw[← e]
  rw[List.take_left']
  rw[e]
 have h2:out.drop (out.takeWhile (insP x)).length=out.dropWhile (insP x):=by
  conv=>lhs;rw[← e]
  rw[List.drop_left']
  rw[e]
 rw[h1,h2,List.append_assoc];rfl
theorem byte_at (s:ByteArray) (h:0<s.size):(Ds.bl s).head?=some s[0]:=by
 unfold Ds.bl
 rw[List.head?_eq_getElem?,List.getElem?_eq_getElem (by simpa using h)]
 rfl
theorem rsort (v:Value) (l:List Rw) (id:Int) (c:UInt8) (cz:Int) (hcz:cz=(c.toNat:Int)) (w:World) (hn:l.length≤1000) (hS:RwS w v l) :
  Calls Tryz.prog 99 #[v,.int .i64 id,.int .u8 cz] w fun r w'=>∃ v',r=.returned v'∧RwS w' v' (srt id c l)∧(∀ q,v'.ownBlock=some q→w.heap.size≤q)∧Below w.heap.size w w':=by
 obtain⟨a,cc,rfl,-,hc⟩:=hS
 have HC:=Lib.hid hc
 have HCZ:=Lib.hid hcz
 clear hc hcz
 have hcb:cz<256:=by have:=c.toNat_lt;rw[HCZ.out];omega
 have hcb0:0≤cz:=by rw[HCZ.out];omega
 go_enter Tryz.func99,Tryz.ntmps99
 go_wp2_with fail
 go_loopw [7,8] (fun v i wr=>∃ (k g vc:Nat),k≤l.length∧i=.int .i64 k∧v=.slice (some ⟨g,0,none⟩) (srt id c (l.take k)).length vc∧wr.ownsRow w.heap.size 69 3 (.slice (some ⟨g,0,none⟩) (srt id c (l.take k)).length vc) (srt id c (l.take k)).length (rv (srt id c (l.take k)))∧Below w.heap.size w wr) (fun _ i _=>l.length - (intOf i).toNat)
 case atStart=>exact⟨0,w.heap.size,0,Nat.zero_le _,rfl,rfl,World.ownsRow_made w #[] 0 (Nat.le_refl _) (Nat.zero_le _) rfl,by exact belA⟩
 case round =>
  obtain⟨k,g,vc,hk,rfl,rfl,hown,B⟩:=hrel
  have z0:=B.size
  have HO:=Lib.hid hown
  have HB:=Lib.hid B
  have hL:=srt_len id c l k
  have hcap:=own_capR hown
  clear hown B
  by_cases hlt:k<l.length
  · obtain⟨b,o,rfl,hb,hcell⟩:=HC.out (by omega)
    obtain⟨q0,q1,q2⟩:=hcell k hlt
    have p0:=(HB.out.cell hb).trans q0
    have p1:=(HB.out.cell hb).trans q1
    have p2:=(HB.out.cell hb).trans q2
    clear hcell q0 q1 q2
    have j1:(0:Int)≤(k:Int):=by omega
    have j2:(k:Int)<(l.length:Int):=by omega
    have hsn:srt id c (l.take (k+1))=srtS id c (srt id c (l.take k)) l[k]:=by rw[List.take_succ_eq_append_getElem hlt,srt_snoc]
    have N0:(wr.alloc (.cells #[.int .i64 l[k].1,.string l[k].2.1,.string l[k].2.2] 69)).cell? ⟨wr.heap.size,0,none⟩=some (.int .i64 l[k].1):=cell_row (row_new wr _ 69 (0,0)) 0 _ rfl
    have N1:(wr.alloc (.cells #[.int .i64 l[k].1,.string l[k].2.1,.string l[k].2.2] 69)).cell? ⟨wr.heap.size,1,none⟩=some (.string l[k].2.1):=cell_row (row_new wr _ 69 (0,0)) 1 _ rfl
    have N2:(wr.alloc (.cells #[.int .i64 l[k].1,.string l[k].2.1,.string l[k].2.2] 69)).cell? ⟨wr.heap.size,2,none⟩=some (.string l[k].2.2):=cell_row (row_new wr _ 69 (0,0)) 2 _ rfl
    have hne:inL id c l[k]=false→srt id c (l.take (k+1))=srt id c (l.take k):=fun h=>by rw[hsn];unfold srtS;rw[if_neg (by rw[h];simp)]
    have hye:inL id c l[k]=true→srt id c (l.take (k+1))=insR l[k] (srt id c (l.take k)):=fun h=>by rw[hsn];unfold srtS;rw[if_pos h]
    have HNE:=Lib.hid hne
    have HYE:=Lib.hid hye
    clear hsn hne hye
    by_cases e1:l[k].1=id
    rotate_left
    · have t1:(l[k].1 != id)=true:=by rw[bne_iff_ne];exact e1
      have HQ:=Lib.hid (HNE.out (by unfold inL;rw[decide_eq_false e1];rfl))
      clear e1
      go_wp2_with fail
      go_roundw
      case rel=>exact⟨k+1,g,vc,by omega,by go_num,by rw[HQ.out],by rw[HQ.out];exact own_keep HO.out (fun x hx=>(below_al' wr _).block x (own_base HO.out x hx).2),HB.out.alloc z0 _⟩
      case measure=>simp [intOf];omega
    have t1:(l[k].1 != id)=false:=by rw[e1];simp
    by_cases e2:l[k].2.1.size=0
    · have t2:((l[k].2.1.size:Int)==0)=true:=by rw[beq_iff_eq];omega
      have HQ:=Lib.hid (HNE.out (by unfold inL;rw[show kyR l[k]=[] from List.eq_nil_of_length_eq_zero (by rw[Ds.bl_length];exact e2)];simp))
      clear e1 e2
      go_wp2_with fail
      go_roundw
      case rel=>exact⟨k+1,g,vc,by omega,by go_num,by rw[HQ.out],by rw[HQ.out];exact own_keep HO.out (fun x hx=>(below_al' wr _).block x (own_base HO.out x hx).2),HB.out.alloc z0 _⟩
      case measure=>simp [intOf];omega
    have t2:((l[k].2.1.size:Int)==0)=false:=by rw[beq_eq_false_iff_ne];omega
    have hpos:0<l[k].2.1.size:=by omega
    have hposI:(0:Int)<(l[k].2.1.size:Int):=by omega
    have hh:=byte_at l[k].2.1 hpos
    by_cases e3:l[k].2.1[0]=c
    rotate_left
    · have t3:(((l[k].2.1[0]).toNat:Int) != cz)=true:=by rw[bne_iff_ne,HCZ.out];intro h;exact e3 (UInt8.toNat_inj.1 (by omega))
      have HQ:=Lib.hid (HNE.out (by unfold inL;rw[show (kyR l[k]).head?=some l[k].2.1[0] from hh,decide_eq_true e1,Bool.true_and];exact decide_eq_false (fun h=>e3 (Option.some.inj h))))
      clear e1 e2 e3 hh
      go_wp2_with fail
      go_roundw
      case rel=>exact⟨k+1,g,vc,by omega,by go_num,by rw[HQ.out],by rw[HQ.out];exact own_keep HO.out (fun x hx=>(below_al' wr _).block x (own_base HO.out x hx).2),HB.out.alloc z0 _⟩
      case measure=>simp [intOf];omega
    have t3:(((l[k].2.1[0]).toNat:Int) != cz)=false:=by rw[e3,HCZ.out];simp
    have HQ:=Lib.hid (HYE.out (by unfold inL;rw[show (kyR l[k]).head?=some l[k].2.1[0] from hh,decide_eq_true e1,Bool.true_and,e3];exact decide_eq_true rfl))
    clear e1 e2 e3 hh
    generalize hT:srt id c (l.take k)=D at *
    clear hT
    have hO1:(wr.alloc (.cells #[.int .i64 l[k].1,.string l[k].2.1,.string l[k].2.2] 69)).ownsRow w.heap.size 69 3 (.slice (some ⟨g,0,none⟩) D.length vc) D.length (rv D):=own_keep HO.out (fun x hx=>(below_al' wr _).block x (own_base HO.out x hx).2)
    have HO1:=Lib.hid hO1
    have HB1:=Lib.hid (HB.out.alloc z0 (.cells #[.int .i64 l[k].1,.string l[k].2.1,.string l[k].2.2] 69))
    have z1:w.heap.size≤(wr.alloc (.cells #[.int .i64 l[k].1,.string l[k].2.1,.string l[k].2.2] 69)).heap.size:=by simp;omega
    have hTc:∀ j (h:j<D.length),(wr.alloc (.cells #[.int .i64 l[k].1,.string l[k].2.1,.string l[k].2.2] 69)).cell? ⟨g,j*3+1,none⟩=some (.string D[j].2.1):=fun j h=>by
     have:=((rws_of_cells (by omega) (own_cells hO1)):RwS _ _ D)
     obtain⟨a',c',e,-,hp⟩:=this
     obtain⟨b',o',rfl,-,hq⟩:=hp (by omega)
     cases e
     have:=(hq j h).2.1
     rwa [Nat.zero_add] at this
    have HTC:=Lib.hid hTc
    clear hO1 hTc HO HB
    have hgl:g<wr.heap.size+1:=by
     have:=(own_base HO1.out g rfl).2
     simpa using this
    go_wp2_with fail
    generalize hW:wr.alloc (.cells #[.int .i64 l[k].1,.string l[k].2.1,.string l[k].2.2] 69)=W1 at *
    clear hW
    go_loopw [10] (fun j wr2=>∃ (i q:Nat),i≤(D.takeWhile (insP l[k])).length∧j=.int .i64 i∧wr2=W1.drewN q) (fun j _=>D.length - (intOf j).toNat)
    case atStart=>exact⟨0,0,Nat.zero_le _,rfl,rfl⟩
    case round =>
     obtain⟨i,q,hi,rfl,rfl⟩:=hrel
     have htl:=tw_le (insP l[k]) D
     have i1:(0:Int)≤(i:Int):=by omega
     by_cases hiT:i<D.length
     · have i2:(i:Int)<(D.length:Int):=by omega
       have c1:=HTC.out i hiT
       have hat:=tw_at (insP l[k]) D i hiT
       have t4:=less_bl D[i].2.1 l[k].2.1
       by_cases hiw:i<(D.takeWhile (insP l[k])).length
       · have e4:=hat.1 hiw
         unfold insP at e4
         rw[e4] at t4
         have HIW:=Lib.hid hiw
         clear hat e4 hiw
         go_wp2_with fail
         go_quiet (fail)
         go_wp2_with fail
         go_roundw
         case rel=>exact⟨i+1,_,HIW.out,by go_num,rfl⟩
         case measure=>simp [intOf];omega
       have HI:Hid (i=(D.takeWhile (insP l[k])).length):=Lib.hid (by omega)
       have e4:=hat.2 HI.out
       unfold insP at e4
       rw[e4] at t4
       clear hat e4 hiw
       have i3:i≤D.length:=by omega
       go_wp2_with fail
       go_quiet (fail)
       go_upto_region 10 with fail
       generalize hW2:World.drewN (World.drewN W1 _) _=W2
       have hh2:W2.heap=W1.heap:=by rw[← hW2];rfl
       have M0:W2.cell? ⟨wr.heap.size,0,none⟩=some (.int .i64 l[k].1):=by rw[← hW2];exact N0
       have M1:W2.cell? ⟨wr.heap.size,1,none⟩=some (.string l[k].2.1):=by rw[← hW2];exact N1
       have M2:W2.cell? ⟨wr.heap.size,2,none⟩=some (.string l[k].2.2):=by rw[← hW2];exact N2
       have HO2:=Lib.hid (own_keep HO1.out (fun x _=>by rw[hh2]):W2.ownsRow _ _ _ _ _ _)
       have B2:Below w.heap.size w W2:=by rw[← hW2];exact (HB1.out.trans (bdr _ _ _)).trans (bdr _ _ _)
       have z2:g<W2.heap.size:=(own_base HO2.out g rfl).2
       have HFin:Hid ([]++rv (D.take i)++rv [(l[k].1,l[k].2.1,l[k].2.2)]++rv (D.drop i)=rv (insR l[k] D)):=Lib.hid (by rw[insR_eq,← HI.out,rv_app,rv_app];simp)
       have HB2:=Lib.hid B2
       have zB:=B2.size
       clear hW2 hh2 N0 N1 N2 HO1 HB1 B2
       refine wp_region_held_drew (S:=fun w'=>Below W2.heap.size W2 w'∧w'.cell? ⟨wr.heap.size,0,none⟩=some (.int .i64 l[k].1)∧w'.cell? ⟨wr.heap.size,1,none⟩=some (.string l[k].2.1)∧w'.cell? ⟨wr.heap.size,2,none⟩=some (.string l[k].2.2)) (by kernel_rfl) ?_ (fun hHeld=>?_)
       · exact⟨Below.drew (Below.refl _ _),M0,M1,M2⟩
       (refine rg_y (i:=1) (some 56) (v:=?_) rfl rfl (by kernel_rfl) (by kernel_rfl) (by kernel_rfl) (fun _ _ _ h=>h) (by kernel_rfl) ?_ (by assumption) ?_;rotate_left 1;focus (intro w hSw;(try dsimp only at hSw);(first | (go_simp;done) | (go_simp;with_reducible rfl)));(try simp only[Act.put,List.setIfInBounds_toArray,List.set_cons_zero,List.set_cons_succ]))
       (refine rg_y (i:=2) (some 57) (v:=?_) rfl rfl (by kernel_rfl) (by kernel_rfl) (by kernel_rfl) (fun _ _ _ h=>h) (by kernel_rfl) ?_ (by assumption) ?_;rotate_left 1;focus (intro w hSw;(try dsimp only at hSw);(first | (go_simp;done) | (go_simp;with_reducible rfl)));(try simp only[Act.put,List.setIfInBounds_toArray,List.set_cons_zero,List.set_cons_succ]))
       refine rg_y (i:=3) (some 58) (v:=.slice (some ⟨g,0,none⟩) i vc) rfl rfl (by kernel_rfl) (by kernel_rfl) (by kernel_rfl) (fun _ _ _ h=>h) (by kernel_rfl) (fun w hSw=>?_) (by assumption) ?_
       · have sl:=slR_hi (w:=w) (g:=g) i3 hcap.1
         go_simp
       (try simp only[Act.put,List.setIfInBounds_toArray,List.set_cons_zero,List.set_cons_succ])
       (refine rg_y (i:=5) (some 60) (v:=?_) rfl rfl (by kernel_rfl) (by kernel_rfl) (by kernel_rfl) (fun _ _ _ h=>h) (by kernel_rfl) ?_ (by assumption) ?_;rotate_left 1;focus (intro w hSw;(try dsimp only at hSw);(first | (go_simp;done) | (go_simp;with_reducible rfl)));(try simp only[Act.put,List.setIfInBounds_toArray,List.set_cons_zero,List.set_cons_succ]))
       (refine rg_y (i:=8) (some 63) (v:=?_) rfl rfl (by kernel_rfl) (by kernel_rfl) (by kernel_rfl) (fun _ _ _ h=>h) (by kernel_rfl) ?_ (by assumption) ?_;rotate_left 1;focus (intro w hSw;(try dsimp only at hSw);(first | (go_simp;done) | (go_simp;with_reducible rfl)));(try simp only[Act.put,List.setIfInBounds_toArray,List.set_cons_zero,List.set_cons_succ]))
       (refine rg_y (i:=9) (some 64) (v:=?_) rfl rfl (by kernel_rfl) (by kernel_rfl) (by kernel_rfl) (fun _ _ _ h=>h) (by kernel_rfl) ?_ (by assumption) ?_;rotate_left 1;focus (intro w hSw;(try dsimp only at hSw);(first | (go_simp;done) | (go_simp;with_reducible rfl)));(try simp only[Act.put,List.setIfInBounds_toArray,List.set_cons_zero,List.set_cons_succ]))
       refine rg_y (i:=10) (some 65) (v:=.slice (some ⟨g,offR vc i,none⟩) (D.length - i) (vc - i)) rfl rfl (by kernel_rfl) (by kernel_rfl) (by kernel_rfl) (fun _ _ _ h=>h) (by kernel_rfl) (fun w hSw=>?_) (by assumption) ?_
       · have sl:=slR_lo (w:=w) (g:=g) (c:=vc) i3
         go_simp
       (try simp only[Act.put,List.setIfInBounds_toArray,List.set_cons_zero,List.set_cons_succ])
       refine wpAnyH_ready (rs:=[0,6]) (by kernel_rfl) (by simp) ?_
       refine AllReadyH.cons (o:=_) rfl (fun K hK=>?_) (AllReadyH.cons (o:=_) rfl (fun K hK=>?_) AllReadyH.nil)
       · go_simp
         have hbA:Below W2.heap.size W2 (W2.drew.alloc (.cells #[] 69)):=(Below.drew (Below.refl _ _)).alloc (by simp) _
         refine hK.out _ _ ⟨hbA,below_cell hbA M0,below_cell hbA M1,below_cell hbA M2⟩ (fun hHeld=>?_)
         (clear hK K;(try simp only[Act.put,List.setIfInBounds_toArray,List.set_cons_zero,List.set_cons_succ]))
         refine wpAnyH_ready (rs:=[4,6]) (by kernel_rfl) (by simp) ?_
         refine AllReadyH.cons (o:=_) rfl (fun K hK=>?_) (AllReadyH.cons (o:=_) rfl (fun K hK=>?_) AllReadyH.nil)
         · refine step_appX _ rfl (.tmp 55) (.tmp 58) 36 69 _ _ 3 40 (by rfl) Tryz.underlying36 rw_i rw_i0 rw_i1 rw_i2 rfl (by decide) W2.heap.size (.slice (some ⟨W2.heap.size,0,none⟩) 0 0) (.slice (some ⟨g,0,none⟩) i vc) 0 i [] (rv (D.take i)) (by simp [Act.eval]) (own_zeroR (w:=W2.drew) rfl (Nat.le_refl _)) (by simp [Act.eval]) ((headR HO2.out rfl i3).below hbA) (rv_one _) (by unfold maxLen;omega) (by omega) (by first | (simp;done) | (simp;omega)) ?_
           intro a5 c5 w5 hown5 hg5 _
           have hb5:Below W2.heap.size W2 w5:=hbA.grown hg5 (by first | (simp;done) | (simp;omega)) (fun q hq=>by have h2:W2.heap.size=q:=(by simpa [Value.ownBlock] using hq);omega)
           refine hK.out _ _ ⟨hb5,below_cell hb5 M0,below_cell hb5 M1,below_cell hb5 M2⟩ (fun hHeld=>?_)
           (clear hK K;(try simp only[Act.put,List.setIfInBounds_toArray,List.set_cons_zero,List.set_cons_succ]))
           (refine wpAnyH_ready (rs:=[6]) (by kernel_rfl) (by simp) ?_;refine AllReadyH.cons (o:=_) rfl (fun K hK=>?_) AllReadyH.nil)
           go_simp
           have hb6:Below W2.heap.size W2 (w5.alloc (.cells #[.int .i64 l[k].1,.string l[k].2.1,.string l[k].2.2] 69)):=hb5.alloc hb5.size _
           refine hK.out _ _ ⟨hb6,below_cell hb6 M0,below_cell hb6 M1,below_cell hb6 M2⟩ (fun hHeld=>?_)
           (clear hK K;(try simp only[Act.put,List.setIfInBounds_toArray,List.set_cons_zero,List.set_cons_succ]))
           have own6:(w5.alloc (.cells #[.int .i64 l[k].1,.string l[k].2.1,.string l[k].2.2] 69)).ownsRow _ _ _ _ _ _:=own_keep hown5 (fun x hx=>(below_al' w5 _).block x (own_base hown5 x hx).2)
           have csx:=cs_row1 w5 (l[k].1,l[k].2.1,l[k].2.2) 69 _ rfl
           (refine wpAnyH_ready (rs:=[7]) (by kernel_rfl) (by simp) ?_;refine AllReadyH.cons (o:=_) rfl (fun K hK=>?_) AllReadyH.nil)
           refine step_appX _ rfl (.tmp 59) (.tmp 61) 36 69 _ _ 3 40 (by rfl) Tryz.underlying36 rw_i rw_i0 rw_i1 rw_i2 rfl (by decide) W2.heap.size (.slice a5 (0+i) c5) (.slice (some ⟨w5.heap.size,0,none⟩) 1 1) (0+i) 1 _ (rv [(l[k].1,l[k].2.1,l[k].2.2)]) (by simp [Act.eval]) own6 (by simp [Act.eval]) csx (rv_one _) (by unfold maxLen;omega) (by omega) hb6.size ?_
           intro a7 c7 w7 hown7 hg7 _
           have hb7:Below W2.heap.size W2 w7:=hb6.grown hg7 hb6.size (fun q hq=>(own_base own6 q hq).1)
           refine hK.out _ _ ⟨hb7,below_cell hb7 M0,below_cell hb7 M1,below_cell hb7 M2⟩ (fun hHeld=>?_)
           (clear hK K;(try simp only[Act.put,List.setIfInBounds_toArray,List.set_cons_zero,List.set_cons_succ]))
           (refine wpAnyH_ready (rs:=[11]) (by kernel_rfl) (by simp) ?_;refine AllReadyH.cons (o:=_) rfl (fun K hK=>?_) AllReadyH.nil)
           refine step_appX _ rfl (.tmp 62) (.tmp 65) 36 69 _ _ 3 40 (by rfl) Tryz.underlying36 rw_i rw_i0 rw_i1 rw_i2 rfl (by decide) W2.heap.size (.slice a7 (0+i+1) c7) (.slice (some ⟨g,offR vc i,none⟩) (D.length - i) (vc - i)) (0+i+1) (D.length - i) _ (rv (D.drop i)) (by simp [Act.eval]) hown7 (by simp [Act.eval]) ((tailR HO2.out rfl hcap.1).below hb7) (rv_one _) (by unfold maxLen;omega) (by omega) hb7.size ?_
           intro a8 c8 w8 hown8 hg8 _
           have hb8:Below W2.heap.size W2 w8:=hb7.grown hg8 hb7.size (fun q hq=>(own_base hown7 q hq).1)
           rw[HFin.out] at hown8
           generalize hLL:0+i+1+(D.length - i)=L at hown8 ⊢
           obtain rfl:L=(insR l[k] D).length:=by rw[insR_len];omega
           obtain⟨g8,rfl,-,-⟩:=own_someR hown8 (by rw[insR_len];omega)
           refine hK.out _ _ ⟨hb8,below_cell hb8 M0,below_cell hb8 M1,below_cell hb8 M2⟩ (fun hHeld=>?_)
           (clear hK K;(try simp only[Act.put,List.setIfInBounds_toArray,List.set_cons_zero,List.set_cons_succ]))
           (refine rg_y (i:=12) (some 7) (v:=?_) rfl rfl (by kernel_rfl) (by kernel_rfl) (by kernel_rfl) (fun _ _ _ h=>h) (by kernel_rfl) ?_ (by assumption) ?_;rotate_left 1;focus (intro w hSw;(try dsimp only at hSw);(first | (go_simp;done) | (go_simp;with_reducible rfl)));(try simp only[Act.put,List.setIfInBounds_toArray,List.set_cons_zero,List.set_cons_succ]))
           refine wpAnyH_done (by kernel_rfl) ?_ _
           have HN8:=Lib.hid hown8
           have HB8:=Lib.hid hb8
           clear hown7 hown8 hg7 hg8 hHeld hb7 hb8
           go_wp2_with fail
           go_roundw
           case rel=>exact⟨k+1,g8,c8,by omega,by go_num,by rw[HQ.out],by rw[HQ.out];exact own_le HN8.out zB,HB2.out.trans (HB8.out.mono zB)⟩
           case measure=>simp [intOf];omega
         · go_simp
           have hbB:Below W2.heap.size W2 ((W2.drew.alloc (.cells #[] 69)).alloc (.cells #[.int .i64 l[k].1,.string l[k].2.1,.string l[k].2.2] 69)):=hbA.alloc (by simp) _
           refine hK.out _ _ ⟨hbB,below_cell hbB M0,below_cell hbB M1,below_cell hbB M2⟩ (fun hHeld=>?_)
           (clear hK K;(try simp only[Act.put,List.setIfInBounds_toArray,List.set_cons_zero,List.set_cons_succ]))
           (refine wpAnyH_ready (rs:=[4]) (by kernel_rfl) (by simp) ?_;refine AllReadyH.cons (o:=_) rfl (fun K hK=>?_) AllReadyH.nil)
           refine step_appX _ rfl (.tmp 55) (.tmp 58) 36 69 _ _ 3 40 (by rfl) Tryz.underlying36 rw_i rw_i0 rw_i1 rw_i2 rfl (by decide) W2.heap.size (.slice (some ⟨W2.heap.size,0,none⟩) 0 0) (.slice (some ⟨g,0,none⟩) i vc) 0 i [] (rv (D.take i)) (by simp [Act.eval]) (own_keep (own_zeroR (w:=W2.drew) rfl (Nat.le_refl _)) (fun x hx=>(below_al' (W2.drew.alloc (.cells #[] 69)) _).block x (by have hx2:W2.heap.size=x:=(by simpa [Value.ownBlock] using hx);simp [← hx2]))) (by simp [Act.eval]) ((headR HO2.out rfl i3).below hbB) (rv_one _) (by unfold maxLen;omega) (by omega) (by first | (simp;done) | (simp;omega)) ?_
           intro a5 c5 w5 hown5 hg5 _
           have hb5:Below W2.heap.size W2 w5:=hbB.grown hg5 (by first | (simp;done) | (simp;omega)) (fun q hq=>by have h2:W2.heap.size=q:=(by simpa [Value.ownBlock] using hq);omega)
           have csx:=(cs_row1 (W2.drew.alloc (.cells #[] 69)) (l[k].1,l[k].2.1,l[k].2.2) 69 (W2.heap.size+1) (by simp)).grown hg5 (by intro e;have e2:W2.heap.size+1=W2.heap.size:=Option.some.inj e;omega) (by first | (simp;done) | (simp;omega))
           refine hK.out _ _ ⟨hb5,below_cell hb5 M0,below_cell hb5 M1,below_cell hb5 M2⟩ (fun hHeld=>?_)
           (clear hK K;(try simp only[Act.put,List.setIfInBounds_toArray,List.set_cons_zero,List.set_cons_succ]))
           (refine wpAnyH_ready (rs:=[7]) (by kernel_rfl) (by simp) ?_;refine AllReadyH.cons (o:=_) rfl (fun K hK=>?_) AllReadyH.nil)
           refine step_appX _ rfl (.tmp 59) (.tmp 61) 36 69 _ _ 3 40 (by rfl) Tryz.underlying36 rw_i rw_i0 rw_i1 rw_i2 rfl (by decide) W2.heap.size (.slice a5 (0+i) c5) (.slice (some ⟨W2.heap.size+1,0,none⟩) 1 1) (0+i) 1 _ (rv [(l[k].1,l[k].2.1,l[k].2.2)]) (by simp [Act.eval]) hown5 (by simp [Act.eval]) csx (rv_one _) (by unfold maxLen;omega) (by omega) hb5.size ?_
           intro a7 c7 w7 hown7 hg7 _
           have hb7:Below W2.heap.size W2 w7:=hb5.grown hg7 hb5.size (fun q hq=>(own_base hown5 q hq).1)
           refine hK.out _ _ ⟨hb7,below_cell hb7 M0,below_cell hb7 M1,below_cell hb7 M2⟩ (fun hHeld=>?_)
           (clear hK K;(try simp only[Act.put,List.setIfInBounds_toArray,List.set_cons_zero,List.set_cons_succ]))
           (refine wpAnyH_ready (rs:=[11]) (by kernel_rfl) (by simp) ?_;refine AllReadyH.cons (o:=_) rfl (fun K hK=>?_) AllReadyH.nil)
           refine step_appX _ rfl (.tmp 62) (.tmp 65) 36 69 _ _ 3 40 (by rfl) Tryz.underlying36 rw_i rw_i0 rw_i1 rw_i2 rfl (by decide) W2.heap.size (.slice a7 (0+i+1) c7) (.slice (some ⟨g,offR vc i,none⟩) (D.length - i) (vc - i)) (0+i+1) (D.length - i) _ (rv (D.drop i)) (by simp [Act.eval]) hown7 (by simp [Act.eval]) ((tailR HO2.out rfl hcap.1).below hb7) (rv_one _) (by unfold maxLen;omega) (by omega) hb7.size ?_
           intro a8 c8 w8 hown8 hg8 _
           have hb8:Below W2.heap.size W2 w8:=hb7.grown hg8 hb7.size (fun q hq=>(own_base hown7 q hq).1)
           rw[HFin.out] at hown8
           generalize hLL:0+i+1+(D.length - i)=L at hown8 ⊢
           obtain rfl:L=(insR l[k] D).length:=by rw[insR_len];omega
           obtain⟨g8,rfl,-,-⟩:=own_someR hown8 (by rw[insR_len];omega)
           refine hK.out _ _ ⟨hb8,below_cell hb8 M0,below_cell hb8 M1,below_cell hb8 M2⟩ (fun hHeld=>?_)
           (clear hK K;(try simp only[Act.put,List.setIfInBounds_toArray,List.set_cons_zero,List.set_cons_succ]))
           (refine rg_y (i:=12) (some 7) (v:=?_) rfl rfl (by kernel_rfl) (by kernel_rfl) (by kernel_rfl) (fun _ _ _ h=>h) (by kernel_rfl) ?_ (by assumption) ?_;rotate_left 1;focus (intro w hSw;(try dsimp only at hSw);(first | (go_simp;done) | (go_simp;with_reducible rfl)));(try simp only[Act.put,List.setIfInBounds_toArray,List.set_cons_zero,List.set_cons_succ]))
           refine wpAnyH_done (by kernel_rfl) ?_ _
           have HN8:=Lib.hid hown8
           have HB8:=Lib.hid hb8
           clear hown7 hown8 hg7 hg8 hHeld hb7 hb8
           go_wp2_with fail
           go_roundw
           case rel=>exact⟨k+1,g8,c8,by omega,by go_num,by rw[HQ.out],by rw[HQ.out];exact own_le HN8.out zB,HB2.out.trans (HB8.out.mono zB)⟩
           case measure=>simp [intOf];omega
       · go_simp
         have hbA:Below W2.heap.size W2 (W2.drew.alloc (.cells #[.int .i64 l[k].1,.string l[k].2.1,.string l[k].2.2] 69)):=(Below.drew (Below.refl _ _)).alloc (by simp) _
         refine hK.out _ _ ⟨hbA,below_cell hbA M0,below_cell hbA M1,below_cell hbA M2⟩ (fun hHeld=>?_)
         (clear hK K;(try simp only[Act.put,List.setIfInBounds_toArray,List.set_cons_zero,List.set_cons_succ]))
         (refine wpAnyH_ready (rs:=[0]) (by kernel_rfl) (by simp) ?_;refine AllReadyH.cons (o:=_) rfl (fun K hK=>?_) AllReadyH.nil)
         go_simp
         have hbB:Below W2.heap.size W2 ((W2.drew.alloc (.cells #[.int .i64 l[k].1,.string l[k].2.1,.string l[k].2.2] 69)).alloc (.cells #[] 69)):=hbA.alloc (by simp) _
         refine hK.out _ _ ⟨hbB,below_cell hbB M0,below_cell hbB M1,below_cell hbB M2⟩ (fun hHeld=>?_)
         (clear hK K;(try simp only[Act.put,List.setIfInBounds_toArray,List.set_cons_zero,List.set_cons_succ]))
         (refine wpAnyH_ready (rs:=[4]) (by kernel_rfl) (by simp) ?_;refine AllReadyH.cons (o:=_) rfl (fun K hK=>?_) AllReadyH.nil)
         refine step_appX _ rfl (.tmp 55) (.tmp 58) 36 69 _ _ 3 40 (by rfl) Tryz.underlying36 rw_i rw_i0 rw_i1 rw_i2 rfl (by decide) W2.heap.size (.slice (some ⟨W2.heap.size+1,0,none⟩) 0 0) (.slice (some ⟨g,0,none⟩) i vc) 0 i [] (rv (D.take i)) (by simp [Act.eval]) (own_zeroR (w:=(W2.drew.alloc (.cells #[.int .i64 l[k].1,.string l[k].2.1,.string l[k].2.2] 69))) (by simp) (by omega)) (by simp [Act.eval]) ((headR HO2.out rfl i3).below hbB) (rv_one _) (by unfold maxLen;omega) (by omega) (by first | (simp;done) | (simp;omega)) ?_
         intro a5 c5 w5 hown5 hg5 _
         have hb5:Below W2.heap.size W2 w5:=hbB.grown hg5 (by first | (simp;done) | (simp;omega)) (fun q hq=>by have h2:W2.heap.size+1=q:=(by simpa [Value.ownBlock] using hq);omega)
         have csx:=((cs_row1 W2.drew (l[k].1,l[k].2.1,l[k].2.2) 69 W2.heap.size rfl).below (below_al' _ (.cells #[] 69))).grown hg5 (by intro e;have e2:W2.heap.size=W2.heap.size+1:=Option.some.inj e;omega) (by first | (simp;done) | (simp;omega))
         refine hK.out _ _ ⟨hb5,below_cell hb5 M0,below_cell hb5 M1,below_cell hb5 M2⟩ (fun hHeld=>?_)
         (clear hK K;(try simp only[Act.put,List.setIfInBounds_toArray,List.set_cons_zero,List.set_cons_succ]))
         (refine wpAnyH_ready (rs:=[7]) (by kernel_rfl) (by simp) ?_;refine AllReadyH.cons (o:=_) rfl (fun K hK=>?_) AllReadyH.nil)
         refine step_appX _ rfl (.tmp 59) (.tmp 61) 36 69 _ _ 3 40 (by rfl) Tryz.underlying36 rw_i rw_i0 rw_i1 rw_i2 rfl (by decide) W2.heap.size (.slice a5 (0+i) c5) (.slice (some ⟨W2.heap.size,0,none⟩) 1 1) (0+i) 1 _ (rv [(l[k].1,l[k].2.1,l[k].2.2)]) (by simp [Act.eval]) hown5 (by simp [Act.eval]) csx (rv_one _) (by unfold maxLen;omega) (by omega) hb5.size ?_
         intro a7 c7 w7 hown7 hg7 _
         have hb7:Below W2.heap.size W2 w7:=hb5.grown hg7 hb5.size (fun q hq=>(own_base hown5 q hq).1)
         refine hK.out _ _ ⟨hb7,below_cell hb7 M0,below_cell hb7 M1,below_cell hb7 M2⟩ (fun hHeld=>?_)
         (clear hK K;(try simp only[Act.put,List.setIfInBounds_toArray,List.set_cons_zero,List.set_cons_succ]))
         (refine wpAnyH_ready (rs:=[11]) (by kernel_rfl) (by simp) ?_;refine AllReadyH.cons (o:=_) rfl (fun K hK=>?_) AllReadyH.nil)
         refine step_appX _ rfl (.tmp 62) (.tmp 65) 36 69 _ _ 3 40 (by rfl) Tryz.underlying36 rw_i rw_i0 rw_i1 rw_i2 rfl (by decide) W2.heap.size (.slice a7 (0+i+1) c7) (.slice (some ⟨g,offR vc i,none⟩) (D.length - i) (vc - i)) (0+i+1) (D.length - i) _ (rv (D.drop i)) (by simp [Act.eval]) hown7 (by simp [Act.eval]) ((tailR HO2.out rfl hcap.1).below hb7) (rv_one _) (by unfold maxLen;omega) (by omega) hb7.size ?_
         intro a8 c8 w8 hown8 hg8 _
         have hb8:Below W2.heap.size W2 w8:=hb7.grown hg8 hb7.size (fun q hq=>(own_base hown7 q hq).1)
         rw[HFin.out] at hown8
         generalize hLL:0+i+1+(D.length - i)=L at hown8 ⊢
         obtain rfl:L=(insR l[k] D).length:=by rw[insR_len];omega
         obtain⟨g8,rfl,-,-⟩:=own_someR hown8 (by rw[insR_len];omega)
         refine hK.out _ _ ⟨hb8,below_cell hb8 M0,below_cell hb8 M1,below_cell hb8 M2⟩ (fun hHeld=>?_)
         (clear hK K;(try simp only[Act.put,List.setIfInBounds_toArray,List.set_cons_zero,List.set_cons_succ]))
         (refine rg_y (i:=12) (some 7) (v:=?_) rfl rfl (by kernel_rfl) (by kernel_rfl) (by kernel_rfl) (fun _ _ _ h=>h) (by kernel_rfl) ?_ (by assumption) ?_;rotate_left 1;focus (intro w hSw;(try dsimp only at hSw);(first | (go_simp;done) | (go_simp;with_reducible rfl)));(try simp only[Act.put,List.setIfInBounds_toArray,List.set_cons_zero,List.set_cons_succ]))
         refine wpAnyH_done (by kernel_rfl) ?_ _
         have HN8:=Lib.hid hown8
         have HB8:=Lib.hid hb8
         clear hown7 hown8 hg7 hg8 hHeld hb7 hb8
         go_wp2_with fail
         go_roundw
         case rel=>exact⟨k+1,g8,c8,by omega,by go_num,by rw[HQ.out],by rw[HQ.out];exact own_le HN8.out zB,HB2.out.trans (HB8.out.mono zB)⟩
         case measure=>simp [intOf];omega
     · have HI:Hid (i=(D.takeWhile (insP l[k])).length):=Lib.hid (by omega)
       have i3:i≤D.length:=by omega
       have i2:decide ((i:Int)<(D.length:Int))=false:=by rw[decide_eq_false_iff_not];omega
       go_wp2_with fail
       go_quiet (fail)
       go_upto_region 10 with fail
       generalize hW2:World.drewN (World.drewN W1 _) _=W2
       have hh2:W2.heap=W1.heap:=by rw[← hW2];rfl
       have M0:W2.cell? ⟨wr.heap.size,0,none⟩=some (.int .i64 l[k].1):=by rw[← hW2];exact N0
       have M1:W2.cell? ⟨wr.heap.size,1,none⟩=some (.string l[k].2.1):=by rw[← hW2];exact N1
       have M2:W2.cell? ⟨wr.heap.size,2,none⟩=some (.string l[k].2.2):=by rw[← hW2];exact N2
       have HO2:=Lib.hid (own_keep HO1.out (fun x _=>by rw[hh2]):W2.ownsRow _ _ _ _ _ _)
       have B2:Below w.heap.size w W2:=by rw[← hW2];exact (HB1.out.trans (bdr _ _ _)).trans (bdr _ _ _)
       have z2:g<W2.heap.size:=(own_base HO2.out g rfl).2
       have HFin:Hid ([]++rv (D.take i)++rv [(l[k].1,l[k].2.1,l[k].2.2)]++rv (D.drop i)=rv (insR l[k] D)):=Lib.hid (by rw[insR_eq,← HI.out,rv_app,rv_app];simp)
       have HB2:=Lib.hid B2
       have zB:=B2.size
       clear hW2 hh2 N0 N1 N2 HO1 HB1 B2
       refine wp_region_held_drew (S:=fun w'=>Below W2.heap.size W2 w'∧w'.cell? ⟨wr.heap.size,0,none⟩=some (.int .i64 l[k].1)∧w'.cell? ⟨wr.heap.size,1,none⟩=some (.string l[k].2.1)∧w'.cell? ⟨wr.heap.size,2,none⟩=some (.string l[k].2.2)) (by kernel_rfl) ?_ (fun hHeld=>?_)
       · exact⟨Below.drew (Below.refl _ _),M0,M1,M2⟩
       (refine rg_y (i:=1) (some 56) (v:=?_) rfl rfl (by kernel_rfl) (by kernel_rfl) (by kernel_rfl) (fun _ _ _ h=>h) (by kernel_rfl) ?_ (by assumption) ?_;rotate_left 1;focus (intro w hSw;(try dsimp only at hSw);(first | (go_simp;done) | (go_simp;with_reducible rfl)));(try simp only[Act.put,List.setIfInBounds_toArray,List.set_cons_zero,List.set_cons_succ]))
       (refine rg_y (i:=2) (some 57) (v:=?_) rfl rfl (by kernel_rfl) (by kernel_rfl) (by kernel_rfl) (fun _ _ _ h=>h) (by kernel_rfl) ?_ (by assumption) ?_;rotate_left 1;focus (intro w hSw;(try dsimp only at hSw);(first | (go_simp;done) | (go_simp;with_reducible rfl)));(try simp only[Act.put,List.setIfInBounds_toArray,List.set_cons_zero,List.set_cons_succ]))
       refine rg_y (i:=3) (some 58) (v:=.slice (some ⟨g,0,none⟩) i vc) rfl rfl (by kernel_rfl) (by kernel_rfl) (by kernel_rfl) (fun _ _ _ h=>h) (by kernel_rfl) (fun w hSw=>?_) (by assumption) ?_
       · have sl:=slR_hi (w:=w) (g:=g) i3 hcap.1
         go_simp
       (try simp only[Act.put,List.setIfInBounds_toArray,List.set_cons_zero,List.set_cons_succ])
       (refine rg_y (i:=5) (some 60) (v:=?_) rfl rfl (by kernel_rfl) (by kernel_rfl) (by kernel_rfl) (fun _ _ _ h=>h) (by kernel_rfl) ?_ (by assumption) ?_;rotate_left 1;focus (intro w hSw;(try dsimp only at hSw);(first | (go_simp;done) | (go_simp;with_reducible rfl)));(try simp only[Act.put,List.setIfInBounds_toArray,List.set_cons_zero,List.set_cons_succ]))
       (refine rg_y (i:=8) (some 63) (v:=?_) rfl rfl (by kernel_rfl) (by kernel_rfl) (by kernel_rfl) (fun _ _ _ h=>h) (by kernel_rfl) ?_ (by assumption) ?_;rotate_left 1;focus (intro w hSw;(try dsimp only at hSw);(first | (go_simp;done) | (go_simp;with_reducible rfl)));(try simp only[Act.put,List.setIfInBounds_toArray,List.set_cons_zero,List.set_cons_succ]))
       (refine rg_y (i:=9) (some 64) (v:=?_) rfl rfl (by kernel_rfl) (by kernel_rfl) (by kernel_rfl) (fun _ _ _ h=>h) (by kernel_rfl) ?_ (by assumption) ?_;rotate_left 1;focus (intro w hSw;(try dsimp only at hSw);(first | (go_simp;done) | (go_simp;with_reducible rfl)));(try simp only[Act.put,List.setIfInBounds_toArray,List.set_cons_zero,List.set_cons_succ]))
       refine rg_y (i:=10) (some 65) (v:=.slice (some ⟨g,offR vc i,none⟩) (D.length - i) (vc - i)) rfl rfl (by kernel_rfl) (by kernel_rfl) (by kernel_rfl) (fun _ _ _ h=>h) (by kernel_rfl) (fun w hSw=>?_) (by assumption) ?_
       · have sl:=slR_lo (w:=w) (g:=g) (c:=vc) i3
         go_simp
       (try simp only[Act.put,List.setIfInBounds_toArray,List.set_cons_zero,List.set_cons_succ])
       refine wpAnyH_ready (rs:=[0,6]) (by kernel_rfl) (by simp) ?_
       refine AllReadyH.cons (o:=_) rfl (fun K hK=>?_) (AllReadyH.cons (o:=_) rfl (fun K hK=>?_) AllReadyH.nil)
       · go_simp
         have hbA:Below W2.heap.size W2 (W2.drew.alloc (.cells #[] 69)):=(Below.drew (Below.refl _ _)).alloc (by simp) _
         refine hK.out _ _ ⟨hbA,below_cell hbA M0,below_cell hbA M1,below_cell hbA M2⟩ (fun hHeld=>?_)
         (clear hK K;(try simp only[Act.put,List.setIfInBounds_toArray,List.set_cons_zero,List.set_cons_succ]))
         refine wpAnyH_ready (rs:=[4,6]) (by kernel_rfl) (by simp) ?_
         refine AllReadyH.cons (o:=_) rfl (fun K hK=>?_) (AllReadyH.cons (o:=_) rfl (fun K hK=>?_) AllReadyH.nil)
         · refine step_appX _ rfl (.tmp 55) (.tmp 58) 36 69 _ _ 3 40 (by rfl) Tryz.underlying36 rw_i rw_i0 rw_i1 rw_i2 rfl (by decide) W2.heap.size (.slice (some ⟨W2.heap.size,0,none⟩) 0 0) (.slice (some ⟨g,0,none⟩) i vc) 0 i [] (rv (D.take i)) (by simp [Act.eval]) (own_zeroR (w:=W2.drew) rfl (Nat.le_refl _)) (by simp [Act.eval]) ((headR HO2.out rfl i3).below hbA) (rv_one _) (by unfold maxLen;omega) (by omega) (by first | (simp;done) | (simp;omega)) ?_
           intro a5 c5 w5 hown5 hg5 _
           have hb5:Below W2.heap.size W2 w5:=hbA.grown hg5 (by first | (simp;done) | (simp;omega)) (fun q hq=>by have h2:W2.heap.size=q:=(by simpa [Value.ownBlock] using hq);omega)
           refine hK.out _ _ ⟨hb5,below_cell hb5 M0,below_cell hb5 M1,below_cell hb5 M2⟩ (fun hHeld=>?_)
           (clear hK K;(try simp only[Act.put,List.setIfInBounds_toArray,List.set_cons_zero,List.set_cons_succ]))
           (refine wpAnyH_ready (rs:=[6]) (by kernel_rfl) (by simp) ?_;refine AllReadyH.cons (o:=_) rfl (fun K hK=>?_) AllReadyH.nil)
           go_simp
           have hb6:Below W2.heap.size W2 (w5.alloc (.cells #[.int .i64 l[k].1,.string l[k].2.1,.string l[k].2.2] 69)):=hb5.alloc hb5.size _
           refine hK.out _ _ ⟨hb6,below_cell hb6 M0,below_cell hb6 M1,below_cell hb6 M2⟩ (fun hHeld=>?_)
           (clear hK K;(try simp only[Act.put,List.setIfInBounds_toArray,List.set_cons_zero,List.set_cons_succ]))
           have own6:(w5.alloc (.cells #[.int .i64 l[k].1,.string l[k].2.1,.string l[k].2.2] 69)).ownsRow _ _ _ _ _ _:=own_keep hown5 (fun x hx=>(below_al' w5 _).block x (own_base hown5 x hx).2)
           have csx:=cs_row1 w5 (l[k].1,l[k].2.1,l[k].2.2) 69 _ rfl
           (refine wpAnyH_ready (rs:=[7]) (by kernel_rfl) (by simp) ?_;refine AllReadyH.cons (o:=_) rfl (fun K hK=>?_) AllReadyH.nil)
           refine step_appX _ rfl (.tmp 59) (.tmp 61) 36 69 _ _ 3 40 (by rfl) Tryz.underlying36 rw_i rw_i0 rw_i1 rw_i2 rfl (by decide) W2.heap.size (.slice a5 (0+i) c5) (.slice (some ⟨w5.heap.size,0,none⟩) 1 1) (0+i) 1 _ (rv [(l[k].1,l[k].2.1,l[k].2.2)]) (by simp [Act.eval]) own6 (by simp [Act.eval]) csx (rv_one _) (by unfold maxLen;omega) (by omega) hb6.size ?_
           intro a7 c7 w7 hown7 hg7 _
           have hb7:Below W2.heap.size W2 w7:=hb6.grown hg7 hb6.size (fun q hq=>(own_base own6 q hq).1)
           refine hK.out _ _ ⟨hb7,below_cell hb7 M0,below_cell hb7 M1,below_cell hb7 M2⟩ (fun hHeld=>?_)
           (clear hK K;(try simp only[Act.put,List.setIfInBounds_toArray,List.set_cons_zero,List.set_cons_succ]))
           (refine wpAnyH_ready (rs:=[11]) (by kernel_rfl) (by simp) ?_;refine AllReadyH.cons (o:=_) rfl (fun K hK=>?_) AllReadyH.nil)
           refine step_appX _ rfl (.tmp 62) (.tmp 65) 36 69 _ _ 3 40 (by rfl) Tryz.underlying36 rw_i rw_i0 rw_i1 rw_i2 rfl (by decide) W2.heap.size (.slice a7 (0+i+1) c7) (.slice (some ⟨g,offR vc i,none⟩) (D.length - i) (vc - i)) (0+i+1) (D.length - i) _ (rv (D.drop i)) (by simp [Act.eval]) hown7 (by simp [Act.eval]) ((tailR HO2.out rfl hcap.1).below hb7) (rv_one _) (by unfold maxLen;omega) (by omega) hb7.size ?_
           intro a8 c8 w8 hown8 hg8 _
           have hb8:Below W2.heap.size W2 w8:=hb7.grown hg8 hb7.size (fun q hq=>(own_base hown7 q hq).1)
           rw[HFin.out] at hown8
           generalize hLL:0+i+1+(D.length - i)=L at hown8 ⊢
           obtain rfl:L=(insR l[k] D).length:=by rw[insR_len];omega
           obtain⟨g8,rfl,-,-⟩:=own_someR hown8 (by rw[insR_len];omega)
           refine hK.out _ _ ⟨hb8,below_cell hb8 M0,below_cell hb8 M1,below_cell hb8 M2⟩ (fun hHeld=>?_)
           (clear hK K;(try simp only[Act.put,List.setIfInBounds_toArray,List.set_cons_zero,List.set_cons_succ]))
           (refine rg_y (i:=12) (some 7) (v:=?_) rfl rfl (by kernel_rfl) (by kernel_rfl) (by kernel_rfl) (fun _ _ _ h=>h) (by kernel_rfl) ?_ (by assumption) ?_;rotate_left 1;focus (intro w hSw;(try dsimp only at hSw);(first | (go_simp;done) | (go_simp;with_reducible rfl)));(try simp only[Act.put,List.setIfInBounds_toArray,List.set_cons_zero,List.set_cons_succ]))
           refine wpAnyH_done (by kernel_rfl) ?_ _
           have HN8:=Lib.hid hown8
           have HB8:=Lib.hid hb8
           clear hown7 hown8 hg7 hg8 hHeld hb7 hb8
           go_wp2_with fail
           go_roundw
           case rel=>exact⟨k+1,g8,c8,by omega,by go_num,by rw[HQ.out],by rw[HQ.out];exact own_le HN8.out zB,HB2.out.trans (HB8.out.mono zB)⟩
           case measure=>simp [intOf];omega
         · go_simp
           have hbB:Below W2.heap.size W2 ((W2.drew.alloc (.cells #[] 69)).alloc (.cells #[.int .i64 l[k].1,.string l[k].2.1,.string l[k].2.2] 69)):=hbA.alloc (by simp) _
           refine hK.out _ _ ⟨hbB,below_cell hbB M0,below_cell hbB M1,below_cell hbB M2⟩ (fun hHeld=>?_)
           (clear hK K;(try simp only[Act.put,List.setIfInBounds_toArray,List.set_cons_zero,List.set_cons_succ]))
           (refine wpAnyH_ready (rs:=[4]) (by kernel_rfl) (by simp) ?_;refine AllReadyH.cons (o:=_) rfl (fun K hK=>?_) AllReadyH.nil)
           refine step_appX _ rfl (.tmp 55) (.tmp 58) 36 69 _ _ 3 40 (by rfl) Tryz.underlying36 rw_i rw_i0 rw_i1 rw_i2 rfl (by decide) W2.heap.size (.slice (some ⟨W2.heap.size,0,none⟩) 0 0) (.slice (some ⟨g,0,none⟩) i vc) 0 i [] (rv (D.take i)) (by simp [Act.eval]) (own_keep (own_zeroR (w:=W2.drew) rfl (Nat.le_refl _)) (fun x hx=>(below_al' (W2.drew.alloc (.cells #[] 69)) _).block x (by have hx2:W2.heap.size=x:=(by simpa [Value.ownBlock] using hx);simp [← hx2]))) (by simp [Act.eval]) ((headR HO2.out rfl i3).below hbB) (rv_one _) (by unfold maxLen;omega) (by omega) (by first | (simp;done) | (simp;omega)) ?_
           intro a5 c5 w5 hown5 hg5 _
           have hb5:Below W2.heap.size W2 w5:=hbB.grown hg5 (by first | (simp;done) | (simp;omega)) (fun q hq=>by have h2:W2.heap.size=q:=(by simpa [Value.ownBlock] using hq);omega)
           have csx:=(cs_row1 (W2.drew.alloc (.cells #[] 69)) (l[k].1,l[k].2.1,l[k].2.2) 69 (W2.heap.size+1) (by simp)).grown hg5 (by intro e;have e2:W2.heap.size+1=W2.heap.size:=Option.some.inj e;omega) (by first | (simp;done) | (simp;omega))
           refine hK.out _ _ ⟨hb5,below_cell hb5 M0,below_cell hb5 M1,below_cell hb5 M2⟩ (fun hHeld=>?_)
           (clear hK K;(try simp only[Act.put,List.setIfInBounds_toArray,List.set_cons_zero,List.set_cons_succ]))
           (refine wpAnyH_ready (rs:=[7]) (by kernel_rfl) (by simp) ?_;refine AllReadyH.cons (o:=_) rfl (fun K hK=>?_) AllReadyH.nil)
           refine step_appX _ rfl (.tmp 59) (.tmp 61) 36 69 _ _ 3 40 (by rfl) Tryz.underlying36 rw_i rw_i0 rw_i1 rw_i2 rfl (by decide) W2.heap.size (.slice a5 (0+i) c5) (.slice (some ⟨W2.heap.size+1,0,none⟩) 1 1) (0+i) 1 _ (rv [(l[k].1,l[k].2.1,l[k].2.2)]) (by simp [Act.eval]) hown5 (by simp [Act.eval]) csx (rv_one _) (by unfold maxLen;omega) (by omega) hb5.size ?_
           intro a7 c7 w7 hown7 hg7 _
           have hb7:Below W2.heap.size W2 w7:=hb5.grown hg7 hb5.size (fun q hq=>(own_base hown5 q hq).1)
           refine hK.out _ _ ⟨hb7,below_cell hb7 M0,below_cell hb7 M1,below_cell hb7 M2⟩ (fun hHeld=>?_)
           (clear hK K;(try simp only[Act.put,List.setIfInBounds_toArray,List.set_cons_zero,List.set_cons_succ]))
           (refine wpAnyH_ready (rs:=[11]) (by kernel_rfl) (by simp) ?_;refine AllReadyH.cons (o:=_) rfl (fun K hK=>?_) AllReadyH.nil)
           refine step_appX _ rfl (.tmp 62) (.tmp 65) 36 69 _ _ 3 40 (by rfl) Tryz.underlying36 rw_i rw_i0 rw_i1 rw_i2 rfl (by decide) W2.heap.size (.slice a7 (0+i+1) c7) (.slice (some ⟨g,offR vc i,none⟩) (D.length - i) (vc - i)) (0+i+1) (D.length - i) _ (rv (D.drop i)) (by simp [Act.eval]) hown7 (by simp [Act.eval]) ((tailR HO2.out rfl hcap.1).below hb7) (rv_one _) (by unfold maxLen;omega) (by omega) hb7.size ?_
           intro a8 c8 w8 hown8 hg8 _
           have hb8:Below W2.heap.size W2 w8:=hb7.grown hg8 hb7.size (fun q hq=>(own_base hown7 q hq).1)
           rw[HFin.out] at hown8
           generalize hLL:0+i+1+(D.length - i)=L at hown8 ⊢
           obtain rfl:L=(insR l[k] D).length:=by rw[insR_len];omega
           obtain⟨g8,rfl,-,-⟩:=own_someR hown8 (by rw[insR_len];omega)
           refine hK.out _ _ ⟨hb8,below_cell hb8 M0,below_cell hb8 M1,below_cell hb8 M2⟩ (fun hHeld=>?_)
           (clear hK K;(try simp only[Act.put,List.setIfInBounds_toArray,List.set_cons_zero,List.set_cons_succ]))
           (refine rg_y (i:=12) (some 7) (v:=?_) rfl rfl (by kernel_rfl) (by kernel_rfl) (by kernel_rfl) (fun _ _ _ h=>h) (by kernel_rfl) ?_ (by assumption) ?_;rotate_left 1;focus (intro w hSw;(try dsimp only at hSw);(first | (go_simp;done) | (go_simp;with_reducible rfl)));(try simp only[Act.put,List.setIfInBounds_toArray,List.set_cons_zero,List.set_cons_succ]))
           refine wpAnyH_done (by kernel_rfl) ?_ _
           have HN8:=Lib.hid hown8
           have HB8:=Lib.hid hb8
           clear hown7 hown8 hg7 hg8 hHeld hb7 hb8
           go_wp2_with fail
           go_roundw
           case rel=>exact⟨k+1,g8,c8,by omega,by go_num,by rw[HQ.out],by rw[HQ.out];exact own_le HN8.out zB,HB2.out.trans (HB8.out.mono zB)⟩
           case measure=>simp [intOf];omega
       · go_simp
         have hbA:Below W2.heap.size W2 (W2.drew.alloc (.cells #[.int .i64 l[k].1,.string l[k].2.1,.string l[k].2.2] 69)):=(Below.drew (Below.refl _ _)).alloc (by simp) _
         refine hK.out _ _ ⟨hbA,below_cell hbA M0,below_cell hbA M1,below_cell hbA M2⟩ (fun hHeld=>?_)
         (clear hK K;(try simp only[Act.put,List.setIfInBounds_toArray,List.set_cons_zero,List.set_cons_succ]))
         (refine wpAnyH_ready (rs:=[0]) (by kernel_rfl) (by simp) ?_;refine AllReadyH.cons (o:=_) rfl (fun K hK=>?_) AllReadyH.nil)
         go_simp
         have hbB:Below W2.heap.size W2 ((W2.drew.alloc (.cells #[.int .i64 l[k].1,.string l[k].2.1,.string l[k].2.2] 69)).alloc (.cells #[] 69)):=hbA.alloc (by simp) _
         refine hK.out _ _ ⟨hbB,below_cell hbB M0,below_cell hbB M1,below_cell hbB M2⟩ (fun hHeld=>?_)
         (clear hK K;(try simp only[Act.put,List.setIfInBounds_toArray,List.set_cons_zero,List.set_cons_succ]))
         (refine wpAnyH_ready (rs:=[4]) (by kernel_rfl) (by simp) ?_;refine AllReadyH.cons (o:=_) rfl (fun K hK=>?_) AllReadyH.nil)
         refine step_appX _ rfl (.tmp 55) (.tmp 58) 36 69 _ _ 3 40 (by rfl) Tryz.underlying36 rw_i rw_i0 rw_i1 rw_i2 rfl (by decide) W2.heap.size (.slice (some ⟨W2.heap.size+1,0,none⟩) 0 0) (.slice (some ⟨g,0,none⟩) i vc) 0 i [] (rv (D.take i)) (by simp [Act.eval]) (own_zeroR (w:=(W2.drew.alloc (.cells #[.int .i64 l[k].1,.string l[k].2.1,.string l[k].2.2] 69))) (by simp) (by omega)) (by simp [Act.eval]) ((headR HO2.out rfl i3).below hbB) (rv_one _) (by unfold maxLen;omega) (by omega) (by first | (simp;done) | (simp;omega)) ?_
         intro a5 c5 w5 hown5 hg5 _
         have hb5:Below W2.heap.size W2 w5:=hbB.grown hg5 (by first | (simp;done) | (simp;omega)) (fun q hq=>by have h2:W2.heap.size+1=q:=(by simpa [Value.ownBlock] using hq);omega)
         have csx:=((cs_row1 W2.drew (l[k].1,l[k].2.1,l[k].2.2) 69 W2.heap.size rfl).below (below_al' _ (.cells #[] 69))).grown hg5 (by intro e;have e2:W2.heap.size=W2.heap.size+1:=Option.some.inj e;omega) (by first | (simp;done) | (simp;omega))
         refine hK.out _ _ ⟨hb5,below_cell hb5 M0,below_cell hb5 M1,below_cell hb5 M2⟩ (fun hHeld=>?_)
         (clear hK K;(try simp only[Act.put,List.setIfInBounds_toArray,List.set_cons_zero,List.set_cons_succ]))
         (refine wpAnyH_ready (rs:=[7]) (by kernel_rfl) (by simp) ?_;refine AllReadyH.cons (o:=_) rfl (fun K hK=>?_) AllReadyH.nil)
         refine step_appX _ rfl (.tmp 59) (.tmp 61) 36 69 _ _ 3 40 (by rfl) Tryz.underlying36 rw_i rw_i0 rw_i1 rw_i2 rfl (by decide) W2.heap.size (.slice a5 (0+i) c5) (.slice (some ⟨W2.heap.size,0,none⟩) 1 1) (0+i) 1 _ (rv [(l[k].1,l[k].2.1,l[k].2.2)]) (by simp [Act.eval]) hown5 (by simp [Act.eval]) csx (rv_one _) (by unfold maxLen;omega) (by omega) hb5.size ?_
         intro a7 c7 w7 hown7 hg7 _
         have hb7:Below W2.heap.size W2 w7:=hb5.grown hg7 hb5.size (fun q hq=>(own_base hown5 q hq).1)
         refine hK.out _ _ ⟨hb7,below_cell hb7 M0,below_cell hb7 M1,below_cell hb7 M2⟩ (fun hHeld=>?_)
         (clear hK K;(try simp only[Act.put,List.setIfInBounds_toArray,List.set_cons_zero,List.set_cons_succ]))
         (refine wpAnyH_ready (rs:=[11]) (by kernel_rfl) (by simp) ?_;refine AllReadyH.cons (o:=_) rfl (fun K hK=>?_) AllReadyH.nil)
         refine step_appX _ rfl (.tmp 62) (.tmp 65) 36 69 _ _ 3 40 (by rfl) Tryz.underlying36 rw_i rw_i0 rw_i1 rw_i2 rfl (by decide) W2.heap.size (.slice a7 (0+i+1) c7) (.slice (some ⟨g,offR vc i,none⟩) (D.length - i) (vc - i)) (0+i+1) (D.length - i) _ (rv (D.drop i)) (by simp [Act.eval]) hown7 (by simp [Act.eval]) ((tailR HO2.out rfl hcap.1).below hb7) (rv_one _) (by unfold maxLen;omega) (by omega) hb7.size ?_
         intro a8 c8 w8 hown8 hg8 _
         have hb8:Below W2.heap.size W2 w8:=hb7.grown hg8 hb7.size (fun q hq=>(own_base hown7 q hq).1)
         rw[HFin.out] at hown8
         generalize hLL:0+i+1+(D.length - i)=L at hown8 ⊢
         obtain rfl:L=(insR l[k] D).length:=by rw[insR_len];omega
         obtain⟨g8,rfl,-,-⟩:=own_someR hown8 (by rw[insR_len];omega)
         refine hK.out _ _ ⟨hb8,below_cell hb8 M0,below_cell hb8 M1,below_cell hb8 M2⟩ (fun hHeld=>?_)
         (clear hK K;(try simp only[Act.put,List.setIfInBounds_toArray,List.set_cons_zero,List.set_cons_succ]))
         (refine rg_y (i:=12) (some 7) (v:=?_) rfl rfl (by kernel_rfl) (by kernel_rfl) (by kernel_rfl) (fun _ _ _ h=>h) (by kernel_rfl) ?_ (by assumption) ?_;rotate_left 1;focus (intro w hSw;(try dsimp only at hSw);(first | (go_simp;done) | (go_simp;with_reducible rfl)));(try simp only[Act.put,List.setIfInBounds_toArray,List.set_cons_zero,List.set_cons_succ]))
         refine wpAnyH_done (by kernel_rfl) ?_ _
         have HN8:=Lib.hid hown8
         have HB8:=Lib.hid hb8
         clear hown7 hown8 hg7 hg8 hHeld hb7 hb8
         go_wp2_with fail
         go_roundw
         case rel=>exact⟨k+1,g8,c8,by omega,by go_num,by rw[HQ.out],by rw[HQ.out];exact own_le HN8.out zB,HB2.out.trans (HB8.out.mono zB)⟩
         case measure=>simp [intOf];omega
  · obtain rfl:k=l.length:=by omega
    go_wp2_with fail
    go_ret
    refine⟨_,rfl,?_,fun q hq=>(own_base HO.out q hq).1,HB.out⟩
    rw[show srt id c l=srt id c (l.take l.length) by rw[List.take_length]]
    exact rws_of_cells (by omega) (own_cells HO.out)
end Go.Proofs.YtlmgolkgodfmpaaGreatDoor
end
