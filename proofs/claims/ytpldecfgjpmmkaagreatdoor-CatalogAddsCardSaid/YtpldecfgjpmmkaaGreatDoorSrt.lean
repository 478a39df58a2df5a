/- Several texts in one: So RwL Srt. -/
import Derived.Test.YtpldecfgjpmmkaaGreatDoorSh
import Derived.Deep.QuietTactic
import Derived.BigQuiet
import Derived.Test.YtpldecfgjpmmkaaGreatDoorAcA
section
/- Records of catalogs in plain words: rows that are distinct; the rows of a letter in order; the profiles that the reader yields are those of the sorted rows. No program in sight. -/
namespace Go.Proofs.YtpldecfgjpmmkaaGreatDoor
set_option maxHeartbeats 1600000
set_option maxRecDepth 8000
abbrev kyR (x:Rw):List UInt8:=Ds.bl x.2.1
def samR (x y:Rw):Bool:=decide (x.1=y.1)&&decide (kyR x=kyR y)
def agn (l:List Rw) (k:Nat) (x:Rw):Bool:=(l.take k).any fun y=>samR y x
def dst (l:List Rw):Nat→List Rw
 | 0=>[]
 | k+1=>match l[k]? with | none=>dst l k | some x=>if agn l k x=true then dst l k else dst l k++[x]
theorem dst_len (l:List Rw):∀ k,(dst l k).length≤k
 | 0=>Nat.le_refl _
 | k+1=>by
   have:=dst_len l k
   rw[dst]
   split
   · omega
   · split
     · omega
     · rw[List.length_append];simp;omega
theorem dst_no {l:List Rw} {k:Nat} (h:k<l.length) (ha:agn l k l[k]=true):dst l (k+1)=dst l k:=by
 rw[dst,List.getElem?_eq_getElem h];simp only;rw[if_pos ha]
theorem dst_yes {l:List Rw} {k:Nat} (h:k<l.length) (ha:agn l k l[k]=false):dst l (k+1)=dst l k++[l[k]]:=by
 rw[dst,List.getElem?_eq_getElem h];simp only;rw[if_neg (by rw[ha];simp)]
def DstL (l:List Rw):Prop:=l.Pairwise fun x y=>samR x y=false
theorem DstL.inj {l:List Rw} (h:DstL l) {x y:Rw} (hx:x∈l) (hy:y∈l) (h1:x.1=y.1) (h2:kyR x=kyR y):x=y:=by
 induction l with
 | nil=>cases hx
 | cons z l ih =>
   unfold DstL at h
   rw[List.pairwise_cons] at h
   have key:∀ u v:Rw,samR u v=false→¬ (u.1=v.1∧kyR u=kyR v):=fun u v hs ⟨q1,q2⟩=>by
    unfold samR at hs;rw[decide_eq_true q1,decide_eq_true q2] at hs;cases hs
   rcases List.mem_cons.1 hx with e1 | hx'
   · rcases List.mem_cons.1 hy with e2 | hy'
     · exact e1.trans e2.symm
     · subst e1;exact absurd ⟨h1,h2⟩ (key _ _ (h.1 y hy'))
   · rcases List.mem_cons.1 hy with e2 | hy'
     · subst e2;exact absurd ⟨h1.symm,h2.symm⟩ (key _ _ (h.1 x hx'))
     · exact ih h.2 hx' hy'
end Go.Proofs.YtpldecfgjpmmkaaGreatDoor
end
section
/- Records of catalogs among the arguments, however many; Few of them; the distinct ones; the sorted ones. -/
namespace Go.Proofs.YtpldecfgjpmmkaaGreatDoor
open Go.RowKit
set_option maxHeartbeats 4000000
set_option maxRecDepth 8000
def RwAt (w:World) (b o:Nat) (x:Rw):Prop:=w.cell? ⟨b,o,none⟩=some (.int .i64 x.1)∧w.cell? ⟨b,o+1,none⟩=some (.string x.2.1)∧w.cell? ⟨b,o+2,none⟩=some (.string x.2.2)
theorem RwAt.below {w w':World} {b o:Nat} {x:Rw} (h:RwAt w b o x) (hb:Below w.heap.size w w'):RwAt w' b o x:=⟨below_cell hb h.1,below_cell hb h.2.1,below_cell hb h.2.2⟩
def RwL (w:World) (a:Option Addr) (n:Nat) (F:Nat→Rw):Prop:=n≤9223372036854775807∧∀ k,k<n→∃ b o,a=some ⟨b,o,none⟩∧b<w.heap.size∧RwAt w b (o+k*3) (F k)
theorem RwL.below {w w':World} {a:Option Addr} {n:Nat} {F:Nat→Rw} (h:RwL w a n F) (hb:Below w.heap.size w w'):RwL w' a n F :=
 ⟨h.1,fun k hk=>by
  obtain⟨b,o,h1,h2,h3⟩:=h.2 k hk
  exact⟨b,o,h1,by have:=hb.size;omega,h3.below hb⟩⟩
def rlst (F:Nat→Rw) (n:Nat):List Rw:=(List.range n).map F
theorem rlst_len (F:Nat→Rw) (n:Nat):(rlst F n).length=n:=by unfold rlst;simp
theorem rlst_get (F:Nat→Rw) (n k:Nat) (h:k<(rlst F n).length):(rlst F n)[k]=F k:=by
 have:∀ (h:k<((List.range n).map F).length),((List.range n).map F)[k]=F k:=fun h=>by simp
 exact this h
theorem RwL.rws {w:World} {a:Option Addr} {n:Nat} {F:Nat→Rw} (h:RwL w a n F) (c:Nat) (hn:n≤1000000):RwS w (.slice a n c) (rlst F n):=by
 refine⟨a,c,by rw[rlst_len],by rw[rlst_len];exact hn,fun h0=>?_⟩
 rw[rlst_len] at h0
 obtain⟨b,o,ha,hb,-⟩:=h.2 0 h0
 refine⟨b,o,ha,hb,fun k hk=>?_⟩
 rw[rlst_len] at hk
 obtain⟨b',o',ha',-,h3⟩:=h.2 k hk
 rw[ha] at ha'
 cases ha'
 rw[rlst_get]
 exact h3
def fewR (F:Nat→Rw) (n:Nat) (m:Int):Prop:=(n:Int)≤m∧∀ k,k<n→(F k).2.1.size≤60∧(F k).2.2.size≤300
def FewRR (F:Nat→Rw) (n:Nat) (m:Int) (w w':World) (r:Ending):Prop:=∃ b:Bool,r=.returned (.bool b)∧(b=true→fewR F n m)∧w'=w
theorem FewRR.no {F:Nat→Rw} {n:Nat} {m:Int} {w:World}:FewRR F n m w w (.returned (.bool false)):=⟨false,rfl,(fun h=>by cases h),rfl⟩
theorem rfew34 (a:Option Addr) (n c:Nat) (F:Nat→Rw) (m:Int) (w:World) (hL:RwL w a n F) :
  Calls Tryz.prog 7 #[.slice a n c,.int .i64 m] w fun r w'=>FewRR F n m w w' r:=by
 have HL:=Lib.hid hL
 have hn63:=hL.1
 clear hL
 go_enter Tryz.func7,Tryz.ntmps7
 go_wp2_with fail
 go_loopw [5] (fun i wr=>∃ k:Nat,k≤n∧i=.int .i64 k∧(∀ j,j<k→(F j).2.1.size≤60∧(F j).2.2.size≤300)∧wr=w) (fun i _=>n - (intOf i).toNat)
 case atStart=>exact⟨0,Nat.zero_le _,rfl,(fun j hj=>absurd hj (by omega)),rfl⟩
 case round =>
  obtain⟨k,hk,rfl,hok,rfl⟩:=hrel
  have HOK:=Lib.hid hok
  clear hok
  by_cases hlt:k<n
  · obtain⟨b,o,rfl,hb,h1,h2,h3⟩:=HL.out.2 k hlt
    by_cases s0:(F k).2.1.size≤60
    rotate_left
    · have f6:decide (60<((F k).2.1.size:Int))=true:=by rw[decide_eq_true_eq];omega
      go_wp2_with fail
      go_ret
      exact FewRR.no
    have f6:decide (60<((F k).2.1.size:Int))=false:=by rw[decide_eq_false_iff_not];omega
    by_cases s1:(F k).2.2.size≤300
    rotate_left
    · have f7:decide (300<((F k).2.2.size:Int))=true:=by rw[decide_eq_true_eq];omega
      go_wp2_with fail
      go_ret
      exact FewRR.no
    have f7:decide (300<((F k).2.2.size:Int))=false:=by rw[decide_eq_false_iff_not];omega
    have HS:Hid ((F k).2.1.size≤60∧(F k).2.2.size≤300):=Lib.hid ⟨s0,s1⟩
    clear s0 s1
    go_wp2_with fail
    go_roundw
    case rel =>
     refine⟨k+1,by omega,by go_num,fun j hj=>?_,trivial⟩
     rcases Nat.lt_or_ge j k with h | h
     · exact HOK.out j h
     · obtain rfl:j=k:=by omega
       exact HS.out
    case measure=>simp [intOf];omega
  · obtain rfl:k=n:=by omega
    by_cases s0:(k:Int)≤m
    rotate_left
    · have f6:decide ((k:Int)≤m)=false:=by rw[decide_eq_false_iff_not];omega
      go_wp2_with fail
      go_ret
      exact FewRR.no
    have f6:decide ((k:Int)≤m)=true:=by rw[decide_eq_true_eq];omega
    have HS:Hid ((k:Int)≤m):=Lib.hid s0
    clear s0
    go_wp2_with fail
    go_ret
    exact⟨_,rfl,fun _=>⟨HS.out,HOK.out⟩,rfl⟩
theorem bdr (B:Nat) (w:World) (n:Nat):Below B w (w.drewN n):=⟨rfl,rfl,rfl,Nat.le_refl _,fun _ _=>rfl⟩
theorem any_snocR (l:List Rw) (j:Nat) (h:j<l.length) (p:Rw→Bool):(l.take (j+1)).any p=((l.take j).any p || p l[j]):=by
 rw[List.take_succ_eq_append_getElem h,List.any_append];simp
theorem rdist (v:Value) (l:List Rw) (w:World) (hn:l.length≤1000) (hS:RwS w v l) :
  Calls Tryz.prog 9 #[v] w fun r w'=>∃ v',r=.returned v'∧RwS w' v' (dst l l.length)∧(∀ q,v'.ownBlock=some q→w.heap.size≤q∧q<w'.heap.size)∧Below w.heap.size w w':=by
 obtain⟨a,c,rfl,-,hc⟩:=hS
 have HC:=Lib.hid hc
 clear hc
 go_enter Tryz.func9,Tryz.ntmps9
 go_wp2_with fail
 go_loopw [3,4] (fun v i wr=>∃ (k:Nat),k≤l.length∧i=.int .i64 k∧wr.ownsRow w.heap.size 67 3 v (dst l k).length (rv (dst l k))∧Below w.heap.size w wr) (fun _ i _=>l.length - (intOf i).toNat)
 case atStart=>exact⟨0,Nat.zero_le _,rfl,World.ownsRow_made w #[] 0 (Nat.le_refl _) (Nat.zero_le _) rfl,by exact belA⟩
 case round =>
  obtain⟨k,hk,rfl,hown,B⟩:=hrel
  obtain⟨va,vc,rfl⟩:=owns_sl hown
  have z0:=B.size
  have HO:=Lib.hid hown
  have HB:=Lib.hid B
  have HL:=dst_len l k
  clear hown B
  by_cases hlt:k<l.length
  · obtain⟨b,o,rfl,hb,hcell⟩:=HC.out (by omega)
    have hcell':∀ j (h:j<l.length),wr.cell? ⟨b,o+j*3,none⟩=some (.int .i64 l[j].1)∧wr.cell? ⟨b,o+j*3+1,none⟩=some (.string l[j].2.1)∧wr.cell? ⟨b,o+j*3+2,none⟩=some (.string l[j].2.2):=fun j h=>by
     obtain⟨q0,q1,q2⟩:=hcell j h
     exact⟨(HB.out.cell hb).trans q0,(HB.out.cell hb).trans q1,(HB.out.cell hb).trans q2⟩
    have HCL:=Lib.hid hcell'
    obtain⟨p0,p1,p2⟩:=hcell' k hlt
    clear hcell hcell'
    have j1:(0:Int)≤(k:Int):=by omega
    have j2:(k:Int)<(l.length:Int):=by omega
    obtain⟨wo,hwo⟩:∃ wo,wo=wr:=⟨_,rfl⟩
    subst hwo
    go_wp2_with fail
    go_loopw [5,6] (fun ag j wr=>∃ (i:Nat),i≤k∧j=.int .i64 i∧ag=.bool (agn l i l[k])∧∃ q,wr=wo.drewN q) (fun _ j _=>k - (intOf j).toNat)
    case atStart=>exact⟨0,Nat.zero_le _,rfl,rfl,0,rfl⟩
    case round =>
     obtain⟨i,hik,rfl,rfl,q,rfl⟩:=hrel
     by_cases hi:i<k
     · obtain⟨r0,r1,r2⟩:=HCL.out i (by omega)
       have i1:(0:Int)≤(i:Int):=by omega
       have i2:(i:Int)<(l.length:Int):=by omega
       have hA:agn l (i+1) l[k]=(agn l i l[k] || samR l[i] l[k]):=any_snocR l i (by omega) _
       generalize agn l i l[k]=ag at hA ⊢
       cases ag
       · by_cases e1:l[i].1=l[k].1
         · have t1:(l[i].1==l[k].1)=true:=by rw[beq_iff_eq];exact e1
           have t2:=tl_beq l[i].2.1 l[k].2.1
           by_cases e2:l[i].2.1=l[k].2.1
           · rw[decide_eq_true e2] at t2
             have HA:Hid (agn l (i+1) l[k]=true):=Lib.hid (by rw[hA,Bool.false_or];unfold samR;rw[decide_eq_true e1,decide_eq_true (congrArg Ds.bl e2)];rfl)
             clear hA e1 e2
             go_wp2_with fail
             go_quiet (fail)
             go_wp2_with fail
             go_roundw
             case rel=>exact⟨i+1,by omega,by go_num,by rw[HA.out],_,rfl⟩
             case measure=>simp [intOf];omega
           · rw[decide_eq_false e2] at t2
             have HA:Hid (agn l (i+1) l[k]=false):=Lib.hid (by rw[hA,Bool.false_or];unfold samR;rw[decide_eq_true e1,decide_eq_false (fun e=>e2 (Ds.bl_inj e))];rfl)
             clear hA e1 e2
             go_wp2_with fail
             go_quiet (fail)
             go_wp2_with fail
             go_roundw
             case rel=>exact⟨i+1,by omega,by go_num,by rw[HA.out],_,rfl⟩
             case measure=>simp [intOf];omega
         · have t1:(l[i].1==l[k].1)=false:=by rw[beq_eq_false_iff_ne];exact e1
           have HA:Hid (agn l (i+1) l[k]=false):=Lib.hid (by rw[hA,Bool.false_or];unfold samR;rw[decide_eq_false e1];rfl)
           clear hA e1
           go_wp2_with fail
           go_quiet (fail)
           go_wp2_with fail
           go_roundw
           case rel=>exact⟨i+1,by omega,by go_num,by rw[HA.out],_,rfl⟩
           case measure=>simp [intOf];omega
       · have HA:Hid (agn l (i+1) l[k]=true):=Lib.hid (by rw[hA];rfl)
         clear hA
         go_wp2_with fail
         go_quiet (fail)
         go_wp2_with fail
         go_roundw
         case rel=>exact⟨i+1,by omega,by go_num,by rw[HA.out],_,rfl⟩
         case measure=>simp [intOf];omega
     · obtain rfl:i=k:=by omega
       cases hA:agn l i l[i]
       · have HD:=Lib.hid (dst_yes hlt hA)
         clear hA
         go_wp2_with (at_builtin;refine wp_appX _ rfl (.tmp 48) (.tmp 53) 22 67 _ _ 3 40 rfl Tryz.underlying22 rw_i rw_i0 rw_i1 rw_i2 rfl (by decide) w.heap.size (.slice va (dst l i).length vc) (.slice (some ⟨wo.heap.size,0,none⟩) 1 1) (dst l i).length 1 (rv (dst l i)) (rv [(l[i].1,l[i].2.1,l[i].2.2)]) rfl (own_keep HO.out (fun x hx=>(below_al' (wo.drewN q) _).block x (own_base HO.out x hx).2)) rfl (cs_row1 (wo.drewN q) (l[i].1,l[i].2.1,l[i].2.2) _ _ rfl) (rv_one _) (by unfold maxLen;omega) (by omega) (by simp;omega) ?_;intro a5 c5 w5 hown hg hat;have B5:=Lib.hid ((((HB.out.trans (bdr _ _ q)).alloc z0 _).grown hg (by simp;omega) (fun q hq=>(own_base HO.out q hq).1)):Below w.heap.size w w5);have HOW:=Lib.hid hown;clear hown hg hat)
         go_roundw
         case rel=>exact⟨i+1,by omega,by go_num,by rw[HD.out,List.length_append,rv_app];exact HOW.out,B5.out⟩
         case measure=>simp [intOf];omega
       · have HD:=Lib.hid (dst_no hlt hA)
         clear hA
         go_wp2_with fail
         go_roundw
         case rel=>exact⟨i+1,by omega,by go_num,by rw[HD.out];exact HO.out,HB.out.trans (bdr _ _ q)⟩
         case measure=>simp [intOf];omega
  · obtain rfl:k=l.length:=by omega
    go_wp2_with fail
    go_ret
    exact⟨_,rfl,rws_of_cells (by omega) (own_cells HO.out),fun q hq=>own_base HO.out q hq,HB.out⟩
end Go.Proofs.YtpldecfgjpmmkaaGreatDoor
end
section
/- Contract of the reference of chapter 34: Sorted. Printed by wip/mksrt.py. -/
namespace Go.Proofs.YtpldecfgjpmmkaaGreatDoor
open Go.RowKit
set_option maxHeartbeats 8000000
set_option maxRecDepth 8000
set_option linter.unusedSimpArgs false
theorem own_zeroR {w:World} {e:TypeId} {size q base:Nat} (hq:w.heap.size=q) (hb:base≤q):(w.alloc (.cells #[] e)).ownsRow base e size (.slice (some ⟨q,0,none⟩) 0 0) 0 []:=by
 subst hq
 exact⟨by simp,.inr ⟨w.heap.size,0,#[],rfl,hb,heap_alloc_new w _,Nat.le_refl _,by unfold maxLen;omega,by simp,by simp⟩⟩
theorem CS.grown {w w':World} {size m:Nat} {b o c:Nat} {news:List Value} {row:Option Nat} (h:CS w size (.slice (some ⟨b,o,none⟩) m c) m news) (hg:w.grownBy w' row) (hne:some b≠row) (hlt:b<w.heap.size):CS w' size (.slice (some ⟨b,o,none⟩) m c) m news:=by
 obtain⟨a,c',e,h2,h3⟩:=h
 cases e
 refine⟨_,_,rfl,h2,fun h0=>?_⟩
 obtain⟨ad,e,p⟩:=h3 h0
 cases e
 exact⟨_,rfl,fun j u hu=>by
  have:=p j u hu
  rw[Addr.add_lit] at this ⊢
  exact (World.cell?_of_block (a:=(⟨b,o+j,none⟩:Addr)) (hg.block b hlt hne)).trans this⟩
theorem own_le {w:World} {base b e size n:Nat} {v:Value} {xs:List Value} (h:w.ownsRow base e size v n xs) (hb:b≤base):w.ownsRow b e size v n xs:=by
 refine⟨h.1,?_⟩
 rcases h.2 with h0 | ⟨g,cap,cur,rfl,h1,hr⟩
 · exact .inl h0
 · exact .inr ⟨g,cap,cur,rfl,Nat.le_trans hb h1,hr⟩
theorem own_someR {w:World} {base e size n c:Nat} {a:Option Addr} {xs:List Value} (h:w.ownsRow base e size (.slice a n c) n xs) (hn:0<n):∃ g,a=some ⟨g,0,none⟩∧n≤c∧c≤maxLen:=by
 rcases h.2 with ⟨h1,h2⟩ | ⟨g,cap,cur,h1,_,_,h3,h4,_⟩
 · cases h1;omega
 · cases h1;exact⟨g,rfl,h3,h4⟩
theorem own_capR {w:World} {base e size n c g:Nat} {xs:List Value} (h:w.ownsRow base e size (.slice (some ⟨g,0,none⟩) n c) n xs):n≤c∧c≤maxLen:=by
 rcases h.2 with ⟨h1,h2⟩ | ⟨g',cap,cur,h1,_,_,h3,h4,_⟩
 · cases h1
 · cases h1;exact⟨h3,h4⟩
theorem rv_drop:∀ (l:List Rw) (k:Nat),rv (l.drop k)=(rv l).drop (k*3)
 | _,0=>by rw[List.drop_zero,Nat.zero_mul,List.drop_zero]
 | [],k+1=>by rw[List.drop_nil];exact List.drop_nil.symm
 | x::l,k+1=>by
   rw[List.drop_succ_cons,rv_drop l k,rv,show (k+1)*3=3+k*3 by omega,← List.drop_drop];rfl
def offR (c k:Nat):Nat:=if c=k then 0 else k*3
theorem tailR {w:World} {base n g c k:Nat} {l:List Rw} (h:w.ownsRow base 67 3 (.slice (some ⟨g,0,none⟩) n c) n (rv l)) (hl:l.length=n) (hc:n≤c):CS w 3 (.slice (some ⟨g,offR c k,none⟩) (n - k) (c - k)) (n - k) (rv (l.drop k)):=by
 refine⟨_,_,rfl,by rw[rv_len,List.length_drop,hl],fun h0=>⟨_,rfl,fun j u hu=>?_⟩⟩
 have hk:offR c k=k*3:=if_neg (by omega)
 obtain⟨a,c',e,-,p⟩:=own_cells h
 obtain⟨ad,e2,q⟩:=p (by omega)
 injection e with e1
 rw[e2] at e1
 cases e1
 rw[rv_drop,List.getElem?_drop] at hu
 have:=q _ u hu
 rw[Addr.add_lit] at this ⊢
 rw[Nat.zero_add] at this
 rw[hk]
 exact this
theorem headR {w:World} {base n g c k:Nat} {l:List Rw} (h:w.ownsRow base 67 3 (.slice (some ⟨g,0,none⟩) n c) n (rv l)) (hl:l.length=n) (hk:k≤n):CS w 3 (.slice (some ⟨g,0,none⟩) k c) k (rv (l.take k)):=by
 refine⟨_,_,rfl,by rw[rv_len,List.length_take,hl,Nat.min_eq_left hk],fun h0=>⟨_,rfl,fun j u hu=>?_⟩⟩
 obtain⟨a,c',e,-,p⟩:=own_cells h
 obtain⟨ad,e2,q⟩:=p (by omega)
 injection e with e1
 rw[e2] at e1
 cases e1
 refine q j u ?_
 rw[← List.take_append_drop k l,rv_app,List.getElem?_append_left (List.getElem?_eq_some_iff.1 hu).1]
 exact hu
theorem slR_lo {w:World} {g n c k:Nat} (hk:k≤n):(Instr.slice 22 (.slice (some ⟨g,0,none⟩) n c) (some (.int .i64 (k:Int))) none none).run Tryz.prog w=.ok (.slice (some ⟨g,offR c k,none⟩) (n - k) (c - k)) w:=by
 have h3:(0:Int)≤k:=by omega
 have h4:(k:Int)≤n:=by omega
 simp only[Instr.slice,Instr.sliceBounds,Sem.run_bind,Sem.run_pure,run_underlying Tryz.underlying22,Result.andThen_ok,run_sliceBound _ _ _ _ _ h3 h4,Option.isSome,Bool.false_eq_true,if_false]
 rw[Tryz.sizeOf67]
 unfold offR
 by_cases h1:c=k
 · simp only[Result.andThen_ok,Int.toNat_natCast,if_pos h1]
 · simp only[Result.andThen_ok,Int.toNat_natCast,if_neg h1,Option.map,Addr.add_lit,Nat.zero_add]
theorem slR_hi {w:World} {g n c k:Nat} (hk:k≤n) (hc:n≤c):(Instr.slice 22 (.slice (some ⟨g,0,none⟩) n c) none (some (.int .i64 (k:Int))) none).run Tryz.prog w=.ok (.slice (some ⟨g,0,none⟩) k c) w:=by
 have h3:(0:Int)≤k:=by omega
 have h4:(k:Int)≤c:=by omega
 simp only[Instr.slice,Instr.sliceBounds,Sem.run_bind,Sem.run_pure,run_underlying Tryz.underlying22,Result.andThen_ok,run_sliceBound _ _ _ _ _ h3 h4,Option.isSome,Bool.false_eq_true,if_false,if_true]
 rw[Tryz.sizeOf67]
 by_cases h1:c=0
 · simp only[Result.andThen_ok,Int.toNat_natCast,if_pos h1,Nat.sub_zero]
 · simp only[Result.andThen_ok,Int.toNat_natCast,if_neg h1,Option.map,Addr.add_lit,Nat.zero_mul,Nat.sub_zero,Nat.zero_add]
theorem tw_at (p:Rw→Bool):∀ (l:List Rw) (j:Nat) (h:j<l.length),(j<(l.takeWhile p).length→p l[j]=true)∧(j=(l.takeWhile p).length→p l[j]=false)
 | x::l,0,_=>by
   rw[List.takeWhile_cons]
   by_cases c:p x=true
   · rw[if_pos c];exact⟨fun _=>c,fun h=>by simp at h⟩
   · rw[if_neg c];exact⟨fun h=>by simp at h,fun _=>by simpa using c⟩
 | x::l,j+1,h=>by
   have:=tw_at p l j (by simpa using h)
   rw[List.takeWhile_cons]
   by_cases c:p x=true
   · rw[if_pos c]
     exact⟨fun q=>this.1 (by simpa using q),fun q=>this.2 (by simpa using q)⟩
   · rw[if_neg c];exact⟨fun q=>by simp at q,fun q=>by simp at q⟩
theorem tw_le (p:Rw→Bool) (l:List Rw):(l.takeWhile p).length≤l.length:=(List.takeWhile_prefix p).length_le
end Go.Proofs.YtpldecfgjpmmkaaGreatDoor
end
