/- Catalogs. -/
import Derived.Test.YtefcmdmfgdcpmaaGreatDoorAcA
set_option maxRecDepth 8000
set_option maxHeartbeats 4000000
namespace Go.Proofs.YtefcmdmfgdcpmaaGreatDoor
abbrev Rw:=Int × ByteArray × ByteArray
def ltB(a b:List UInt8):Bool:=decide (Lib.compareBytes a b<0)
theorem zdh(a:List UInt8):ltB a a=false:=by unfold ltB;rw[(Ds.cmp_zero a a).2 rfl];rfl
theorem zfs{a b:List UInt8}(h:ltB a b=true):ltB b a=false:=by
 have h1:Lib.compareBytes a b<0:=of_decide_eq_true h;have h3:=Ds.cmp_neg a b;exact decide_eq_false (show ¬ Lib.compareBytes b a<0 by omega)
theorem zmB{a b:List UInt8}(h:ltB a b=false)(hne:a≠b):ltB b a=true:=by
 have h1:¬ Lib.compareBytes a b<0:=of_decide_eq_false h;have h2:Lib.compareBytes a b≠0:=fun e=>hne ((Ds.cmp_zero a b).1 e)
 have h3:=Ds.cmp_neg a b;exact decide_eq_true (show Lib.compareBytes b a<0 by omega)
theorem zcv{a b c:List UInt8}(h:ltB a b=true)(k:ltB b c=true):ltB a c=true:=by
 have h1:Lib.compareBytes a b<0:=of_decide_eq_true h;have k1:Lib.compareBytes b c<0:=of_decide_eq_true k;have t:=Ds.cmp_trans a b c (by omega) (by omega);rcases Int.lt_or_eq_of_le t with t|t
 · exact decide_eq_true t
 · have e:=(Ds.cmp_zero a c).1 t;subst e;have:=Ds.cmp_neg a b;omega
def nxq(id:Int)(k:List UInt8)(o:Option Rw)(x:Rw):Bool:=decide (x.1=id)&&(ltB k (Ds.bl x.2.1)&&(match o with|none=>true|some y=>ltB (Ds.bl x.2.1) (Ds.bl y.2.1)))
def nxs(id:Int)(k:List UInt8)(o:Option Rw)(x:Rw):Option Rw:=if nxq id k o x=true then some x else o
def nx(id:Int)(k:List UInt8)(l:List Rw):Option Rw:=l.foldl (nxs id k) none
theorem ziX(id:Int)(k:List UInt8)(l:List Rw)(x:Rw):nx id k (l++[x])=nxs id k (nx id k l) x:=by
 unfold nx;rw[List.foldl_append];rfl
theorem zp9(id:Int)(k:List UInt8):∀ (l:List Rw) (o:Option Rw) (x:Rw),l.foldl (nxs id k) o=some x->o=some x∨(x∈l∧x.1=id∧ltB k (Ds.bl x.2.1)=true)
 | [],o,x,h=>Or.inl h
 | y::l,o,x,h=>by
   rw[List.foldl_cons] at h;rcases zp9 id k l _ x h with h1|h1
   · unfold nxs at h1;split at h1
     · rename_i c;cases h1;unfold nxq at c;simp only[Bool.and_eq_true,decide_eq_true_eq] at c
       exact Or.inr ⟨by simp,c.1,c.2.1⟩
     · exact Or.inl h1
   · exact Or.inr ⟨by simp [h1.1],h1.2⟩
theorem zdI{id:Int}{k:List UInt8}{l:List Rw}{x:Rw}(h:nx id k l=some x):x∈l∧x.1=id∧ltB k (Ds.bl x.2.1)=true:=by
 rcases zp9 id k l none x h with h|h
 · cases h
 · exact h
theorem zsn{id:Int}{k:List UInt8}{l:List Rw}{x:Rw}(h:nxq id k (nx id k l) x=false):nx id k (l++[x])=nx id k l:=by
 rw[ziX];unfold nxs;rw[if_neg (by rw[h];simp)]
theorem zso{id:Int}{k:List UInt8}{l:List Rw}{x:Rw}(h:nxq id k (nx id k l) x=true):nx id k (l++[x])=some x:=by
 rw[ziX];unfold nxs;rw[if_pos h]
def NI(id:Int)(key:List UInt8)(l:List Rw)(k:Nat)(j:Int):Prop:=(nx id key (l.take k)=none∧j=-1)∨∃ (i:Nat) (h:i<l.length),j=i∧i<k∧nx id key (l.take k)=some l[i]
theorem NI.keep{id:Int}{key:List UInt8}{l:List Rw}{k:Nat}{j:Int}(h:NI id key l k j)(hk:k<l.length)(hq:nxq id key (nx id key (l.take k)) l[k]=false):NI id key l (k+1) j:=by
 have e:nx id key (l.take (k+1))=nx id key (l.take k):=by rw[List.take_succ_eq_append_getElem hk];exact zsn hq
 unfold NI;rw[e];rcases h with h|⟨i,h1,h2,h3,h4⟩
 · exact Or.inl h
 · exact Or.inr ⟨i,h1,h2,by omega,h4⟩
theorem NI.take{id:Int}{key:List UInt8}{l:List Rw}{k:Nat}(hk:k<l.length)(hq:nxq id key (nx id key (l.take k)) l[k]=true):NI id key l (k+1) (k:Int):=by
 refine Or.inr ⟨k,hk,rfl,by omega,?_⟩
 rw[List.take_succ_eq_append_getElem hk];exact zso hq
def cnt(id:Int)(k:List UInt8)(l:List Rw):Nat:=l.countP fun x=>decide (x.1=id)&&ltB k (Ds.bl x.2.1)
theorem zfg{α:Type}(p q:α->Bool):∀ (l:List α),(∀ x∈l,p x=true->q x=true)->(∃ x∈l,q x=true∧p x=false)->l.countP p<l.countP q
 | [],_,h=>by obtain⟨x,hx,-⟩:=h;cases hx
 | y::l,h1,h2=>by
   have hle:l.countP p<=l.countP q:=List.countP_mono_left (fun x hx=>h1 x (by simp [hx]));rw[List.countP_cons,List.countP_cons];have hy:=h1 y (by simp);by_cases hq:q y=true∧p y=false
   · rw[if_pos hq.1,if_neg (by rw[hq.2];simp)];omega
   · have hlt:l.countP p<l.countP q:=zfg p q l (fun x hx=>h1 x (by simp [hx])) (by
      obtain⟨x,hx,hx1,hx2⟩:=h2;rcases List.mem_cons.1 hx with rfl|hx
      · exact absurd ⟨hx1,hx2⟩ hq
      · exact⟨x,hx,hx1,hx2⟩)
     by_cases hp:p y=true
     · rw[if_pos hp,if_pos (hy hp)];omega
     · rw[if_neg hp];split <;> omega
theorem zjt{id:Int}{k:List UInt8}{l:List Rw}{x:Rw}(h:nx id k l=some x):cnt id (Ds.bl x.2.1) l<cnt id k l:=by
 obtain⟨h1,h2,h3⟩:=zdI h;refine zfg _ _ l (fun y _ hy=>?_) ⟨x,h1,?_,?_⟩
 · rw[Bool.and_eq_true] at hy ⊢;exact⟨hy.1,zcv h3 hy.2⟩
 · rw[Bool.and_eq_true];exact⟨decide_eq_true h2,h3⟩
 · rw[zdh,Bool.and_false]
theorem cnt_le(id:Int)(k:List UInt8)(l:List Rw):cnt id k l<=l.length:=List.countP_le_length
theorem zeA(a:List UInt8):ltB a []=false:=by
 unfold ltB;cases a <;> simp [Lib.compareBytes]
section
open Go.RowKit
def RwS(w:World)(v:Value)(l:List Rw):Prop :=
 ∃ a c,v=.slice a l.length c∧l.length<=1000000∧(0<l.length->∃ b o,a=some ⟨b,o,none⟩∧b<w.heap.size∧∀ k (h:k<l.length),w.cell? ⟨b,o+k*3,none⟩=some (.int .i64 l[k].1)∧w.cell? ⟨b,o+k*3+1,none⟩=some (.string l[k].2.1)∧w.cell? ⟨b,o+k*3+2,none⟩=some (.string l[k].2.2))
theorem RwS.keep{w w':World}{v:Value}{l:List Rw}(h:RwS w v l)(hs:w.heap.size<=w'.heap.size)(hk:∀ b,v.ownBlock=some b->b<w.heap.size->w'.heap[b]?=w.heap[b]?):RwS w' v l:=by
 obtain⟨a,c,h1,h2,h3⟩:=h;refine⟨a,c,h1,h2,fun h0=>?_⟩
 obtain⟨b,o,ha,hlt,hc⟩:=h3 h0;subst ha;have q:=fun i=>World.cell?_of_block (w:=w) (w':=w') (a:=⟨b,i,none⟩) (hk b (by rw[h1];rfl) hlt)
 exact⟨b,o,rfl,Nat.lt_of_lt_of_le hlt hs,fun k hk=>⟨(q _).trans (hc k hk).1,(q _).trans (hc k hk).2.1,(q _).trans (hc k hk).2.2⟩⟩
theorem RwS.below{w w':World}{v:Value}{l:List Rw}(h:RwS w v l)(hb:Below w.heap.size w w'):RwS w' v l:=h.keep hb.size (fun b _ hl=>hb.block b hl)
theorem RwS.nil(w:World):RwS w (.slice none 0 0) []:=⟨none,0,rfl,by decide,fun h=>by simp at h⟩
def SHf(w:World)(p:Nat)(sv:Value)(fl cd ca:Int):Prop:=row w p=#[sv,.int .i64 fl,.int .i64 cd,.int .i64 ca]∧∀ o,w.frozen? ⟨p,o,none⟩=false
theorem dN2(w:World)(q n:Nat):(w.drewN q).drewN n=w.drewN (q+n):=by simp [World.drewN,Nat.add_assoc]
theorem zie(p:Nat)(sv:Value)(fl cd ca:Int)(w:World)(h:SHf w p sv fl cd ca)(h0:0<=ca)(h1:ca<1000000000) :
  Calls Tryz.prog 325 #[.pointer (some ⟨p,0,none⟩)] w fun r w'=>r=.returned (.bool (decide (ca+1=fl)))∧∃ q,w'=(w.setCell ⟨p,3,none⟩ (.int .i64 (ca+1))).drewN q:=by
 obtain⟨hr,hf⟩:=h;have c1:=zah hr 1 _ rfl;have c3:=zah hr 3 _ rfl;have f3:=hf 3;have hp:=block_lt_of_cell c3;have hw:IntKind.i64.wrap (ca+1)=ca+1:=IntWalk.i64_in _ ⟨by omega,by omega⟩
 have d1:(w.setCell ⟨p,3,none⟩ (.int .i64 (ca+1))).cell? ⟨p,1,none⟩=some (.int .i64 fl):=by
  rw[World.cell?_setCell_other _ _ _ _ (by intro h;cases h)];exact c1
 have d3:(w.setCell ⟨p,3,none⟩ (.int .i64 (ca+1))).cell? ⟨p,3,none⟩=some (.int .i64 (ca+1)):=World.cell?_setCell_same' _ _ _ (by rw[c3];rfl);have E:=lh (show (ca+1==fl)=decide (ca+1=fl) by rw[Bool.eq_iff_iff,beq_iff_eq,decide_eq_true_eq]);clear hr hf;go_enter Tryz.func325,Tryz.ntmps325
 go_wp2_with fail
 generalize hW:w.setCell ⟨p,3,none⟩ (.int .i64 (ca+1))=W at d1 d3 ⊢;have HW:=lh hW;clear hW;go_quiet (fail)
 go_wp2_with fail
 go_ret
 exact⟨zaF E.out,_,(congrArg (fun z=>World.drewN z _) HW.out).symm⟩
def nxV(fl cd ca:Int)(o:Option Rw):Value:=if ca+1=fl then .tuple #[.string ⟨#[]⟩,.string ⟨#[]⟩,.int .i64 cd] else match o with|none=>.tuple #[.string ⟨#[]⟩,.string ⟨#[]⟩,.int .i64 6]|some x=>.tuple #[.string x.2.1,.string x.2.2,.int .i64 0]
theorem zgM(a b:ByteArray):Op.bytesLess a.toList b.toList=ltB (Ds.bl a) (Ds.bl b):=by
 rw[show a.toList=Ds.bl a from Lib.toList_data a,show b.toList=Ds.bl b from Lib.toList_data b,Ds.less_cmp];rfl
theorem zsT(p:Nat)(sv:Value)(fl cd ca id:Int)(key:ByteArray)(l:List Rw)(w:World)(h:SHf w p sv fl cd ca)(hl:RwS w sv l)(hne:∀ b,sv.ownBlock=some b->b≠p)(h0:0<=ca)(h1:ca<1000000000) :
  Calls Tryz.prog 324 #[.pointer (some ⟨p,0,none⟩),.int .i64 id,.string key] w fun r w'=>r=.returned (nxV fl cd ca (nx id (Ds.bl key) l))∧∃ q,w'=(w.setCell ⟨p,3,none⟩ (.int .i64 (ca+1))).drewN q:=by
 have hfl:=zie p sv fl cd ca w h h0 h1;obtain⟨hr,-⟩:=h;have c2:=zah hr 2 _ rfl;have c0:=zah hr 0 _ rfl
 have d2:(w.setCell ⟨p,3,none⟩ (.int .i64 (ca+1))).cell? ⟨p,2,none⟩=some (.int .i64 cd):=by
  rw[World.cell?_setCell_other _ _ _ _ (by intro h;cases h)];exact c2
 have d0:(w.setCell ⟨p,3,none⟩ (.int .i64 (ca+1))).cell? ⟨p,0,none⟩=some sv:=by
  rw[World.cell?_setCell_other _ _ _ _ (by intro h;cases h)];exact c0
 have hl2:RwS (w.setCell ⟨p,3,none⟩ (.int .i64 (ca+1))) sv l:=hl.keep (by simp) fun b hb hlt=>(zaH w ⟨p,3,none⟩ _).block b hlt (fun e=>hne b hb (Option.some.inj e))
 generalize w.setCell ⟨p,3,none⟩ (.int .i64 (ca+1))=W at hfl d2 d0 hl2 ⊢;clear hr c2 c0 hl hne;unfold nxV;by_cases hf:ca+1=fl
 · rw[decide_eq_true hf] at hfl;rw[if_pos hf];have HF:=lh hfl;clear hfl hf hl2;go_enter Tryz.func324,Tryz.ntmps324
   go_wp2_with (go_at_call 325;(with_reducible refine HF.out.mono ?_);rintro _ w2 ⟨rfl,q,rfl⟩)
   go_quiet (fail)
   go_wp2_with fail
   go_ret3
   exact⟨rfl,_,dN2 _ _ _⟩
 rw[decide_eq_false hf] at hfl;rw[if_neg hf];generalize hA:(match nx id (Ds.bl key) l with|none=>Value.tuple #[.string ⟨#[]⟩,.string ⟨#[]⟩,.int .i64 6]|some x=>.tuple #[.string x.2.1,.string x.2.2,.int .i64 0])=A;have HA:=lh hA;clear hA;have HF:=lh hfl;obtain⟨a,c,rfl,hz,hc⟩:=hl2;have HC:=lh hc;clear hfl hf hc;go_enter Tryz.func324,Tryz.ntmps324
 go_wp2_with (go_at_call 325;(with_reducible refine HF.out.mono ?_);rintro _ w2 ⟨rfl,q0,rfl⟩)
 go_loopw [9,10] (fun bj i wr=>∃ (k:Nat) (j:Int),k<=l.length∧i=.int .i64 k∧bj=.int .i64 j∧NI id (Ds.bl key) l k j∧∃ q,wr=W.drewN q) (fun _ i _=>l.length - (intOf i).toNat)
 case atStart=>exact⟨0,-1,Nat.zero_le _,rfl,rfl,Or.inl ⟨rfl,rfl⟩,_,rfl⟩
 case round =>
  obtain⟨k,j,hk,rfl,rfl,hj,q,rfl⟩:=hrel;have HJ:=lh hj;clear hj;by_cases hlt:k<l.length
  · obtain⟨b,o,rfl,hb,hcell⟩:=HC.out (by omega);obtain⟨p0,p1,p2⟩:=hcell k hlt;have j1:(0:Int)<=(k:Int):=by omega
    have j2:(k:Int)<(l.length:Int):=by omega
    have HK:Hid (nxq id (Ds.bl key) (nx id (Ds.bl key) (l.take k)) l[k]=false->NI id (Ds.bl key) l (k+1) j):=lh (fun h=>HJ.out.keep hlt h);have HT:Hid (nxq id (Ds.bl key) (nx id (Ds.bl key) (l.take k)) l[k]=true->NI id (Ds.bl key) l (k+1) k):=lh (fun h=>NI.take hlt h);by_cases e1:l[k].1=id
    rotate_left
    · have t1:(l[k].1==id)=false:=by rw[beq_eq_false_iff_ne];exact e1
      have HQ:=lh (HK.out (by unfold nxq;rw[decide_eq_false e1];rfl));clear e1 hcell;go_wp2_with fail
      go_quiet (fail)
      go_wp2_with fail
      go_roundw
      case rel=>exact⟨k+1,j,by omega,by go_num,rfl,HQ.out,_,rfl⟩
      case measure=>simp [intOf];omega
    have t1:(l[k].1==id)=true:=by rw[beq_iff_eq];exact e1
    have t2:=zgM l[k].2.1 key;have t3:=zei l[k].2.1 key;rcases Bool.eq_false_or_eq_true (ltB (Ds.bl l[k].2.1) (Ds.bl key)) with e2|e2
    · rw[e2] at t2;have HQ:=lh (HK.out (by unfold nxq;rw[zfs e2,Bool.false_and,Bool.and_false]));clear e1 e2 hcell t3;go_wp2_with fail
      go_quiet (fail)
      go_wp2_with fail
      go_roundw
      case rel=>exact⟨k+1,j,by omega,by go_num,rfl,HQ.out,_,rfl⟩
      case measure=>simp [intOf];omega
    rw[e2] at t2;by_cases e3:l[k].2.1=key
    · rw[decide_eq_true e3] at t3;have HQ:=lh (HK.out (by unfold nxq;rw[e3,zdh,Bool.false_and,Bool.and_false]));clear e1 e2 e3 hcell;go_wp2_with fail
      go_quiet (fail)
      go_wp2_with fail
      go_roundw
      case rel=>exact⟨k+1,j,by omega,by go_num,rfl,HQ.out,_,rfl⟩
      case measure=>simp [intOf];omega
    rw[decide_eq_false e3] at t3;have e4:ltB (Ds.bl key) (Ds.bl l[k].2.1)=true:=zmB e2 (fun e=>e3 (Ds.bl_inj e));have HN:Hid (nxq id (Ds.bl key) (nx id (Ds.bl key) (l.take k)) l[k]=(match nx id (Ds.bl key) (l.take k) with|none=>true|some y=>ltB (Ds.bl l[k].2.1) (Ds.bl y.2.1))):=lh (by unfold nxq;rw[decide_eq_true e1,e4];rfl);clear e1 e2 e3 e4;rcases HJ.out with ⟨hno,rfl⟩|⟨i,hil,rfl,hik,hso⟩
    · have HQ:=lh (HT.out (by rw[HN.out,hno]));clear hno hcell;go_wp2_with fail
      go_quiet (fail)
      go_wp2_with fail
      go_roundw
      case rel=>exact⟨k+1,k,by omega,by go_num,rfl,HQ.out,_,rfl⟩
      case measure=>simp [intOf];omega
    · obtain⟨s0,s1,s2⟩:=hcell i hil;have i1:(0:Int)<=(i:Int):=by omega
      have i2:(i:Int)<(l.length:Int):=by omega
      have i3:¬ ((i:Int)<0):=by omega
      have t4:=zgM l[k].2.1 l[i].2.1;have HN2:Hid (nxq id (Ds.bl key) (nx id (Ds.bl key) (l.take k)) l[k]=ltB (Ds.bl l[k].2.1) (Ds.bl l[i].2.1)):=lh (by rw[HN.out,hso]);clear hcell hso;rcases Bool.eq_false_or_eq_true (ltB (Ds.bl l[k].2.1) (Ds.bl l[i].2.1)) with e5|e5
      · rw[e5] at t4;have HQ:=lh (HT.out (by rw[HN2.out,e5]));clear e5;go_wp2_with fail
        go_quiet (fail)
        go_wp2_with fail
        go_roundw
        case rel=>exact⟨k+1,k,by omega,by go_num,rfl,HQ.out,_,rfl⟩
        case measure=>simp [intOf];omega
      · rw[e5] at t4;have HQ:=lh (HK.out (by rw[HN2.out,e5]));clear e5;go_wp2_with fail
        go_quiet (fail)
        go_wp2_with fail
        go_roundw
        case rel=>exact⟨k+1,i,by omega,by go_num,rfl,HQ.out,_,rfl⟩
        case measure=>simp [intOf];omega
  · obtain rfl:k=l.length:=by omega
    have HJ2:=HJ.out;unfold NI at HJ2;rw[List.take_length] at HJ2;rcases HJ2 with ⟨hno,rfl⟩|⟨i,hil,rfl,hik,hso⟩
    · have HN:=lh hno;clear hno;go_wp2_with fail
      go_ret3
      exact⟨by rw[<-HA.out,HN.out];rfl,_,rfl⟩
    · have HSO:=lh hso;obtain⟨b,o,rfl,hb,hcell⟩:=HC.out (by omega);obtain⟨s0,s1,s2⟩:=hcell i hil;have i1:(0:Int)<=(i:Int):=by omega
      have i2:(i:Int)<(l.length:Int):=by omega
      have i3:¬ ((i:Int)<0):=by omega
      clear hcell hso;go_wp2_with fail
      go_quiet (fail)
      go_wp2_with fail
      go_ret3
      exact⟨by rw[<-HA.out,HSO.out];rfl,_,dN2 _ _ _⟩
end
section
open Go.RowKit
def rv:List Rw->List Value
 | []=>[]
 | x::r=>[.int .i64 x.1,.string x.2.1,.string x.2.2]++rv r
theorem zib:∀ l:List Rw,(rv l).length=l.length*3
 | []=>rfl
 | x::r=>by rw[rv,List.length_append,zib r,List.length_cons,List.length_cons,List.length_cons,List.length_cons,List.length_nil];omega
theorem zbP:∀ (l:List Rw),∀ u∈rv l,u.oneCell'=true
 | [],u,h=>by cases h
 | x::r,u,h=>by
   rw[rv,List.mem_append] at h;rcases h with h|h
   · simp only[List.mem_cons,List.not_mem_nil,or_false] at h
     rcases h with rfl|rfl|rfl <;> rfl
   · exact zbP r u h
theorem zeQ:∀ (l m:List Rw),rv (l++m)=rv l++rv m
 | [],m=>rfl
 | x::r,m=>by rw[List.cons_append,rv,rv,zeQ r m,List.append_assoc]
theorem zkl:∀ (l:List Rw) (k:Nat) (h:k<l.length),(rv l)[k*3]?=some (.int .i64 l[k].1)∧(rv l)[k*3+1]?=some (.string l[k].2.1)∧(rv l)[k*3+2]?=some (.string l[k].2.2)
 | x::r,0,_=>⟨rfl,rfl,rfl⟩
 | x::r,k+1,h=>by
   have:=zkl r k (by simpa using h);have e:(k+1)*3=k*3+3:=by omega
   rw[e,rv];simpa using this
theorem zuG(l:List Rw)(P:Nat->Value->Prop)(h:∀ k (h:k<l.length),P (k*3) (.int .i64 l[k].1)∧P (k*3+1) (.string l[k].2.1)∧P (k*3+2) (.string l[k].2.2)):∀ j u,(rv l)[j]?=some u->P j u:=by
 intro j u hu;have hj:=(List.getElem?_eq_some_iff.1 hu).1;rw[zib] at hj;have hk:j / 3<l.length:=by omega
 obtain⟨p0,p1,p2⟩:=h (j / 3) hk;obtain⟨q0,q1,q2⟩:=zkl l (j / 3) hk;rcases (by omega:j=j / 3*3∨j=j / 3*3+1∨j=j / 3*3+2) with e|e|e
 · rw[<-e] at p0 q0;rw[q0] at hu;cases hu;exact p0
 · rw[<-e] at p1 q1;rw[q1] at hu;cases hu;exact p1
 · rw[<-e] at p2 q2;rw[q2] at hu;cases hu;exact p2
theorem RwS.cells{w:World}{v:Value}{l:List Rw}(h:RwS w v l):CS w 3 v l.length (rv l):=by
 obtain⟨a,c,rfl,-,hc⟩:=h;refine⟨a,c,rfl,zib l,fun h0=>?_⟩
 obtain⟨b,o,rfl,-,p⟩:=hc h0;refine⟨_,rfl,zuG l (fun j u=>w.cell? ((⟨b,o,none⟩:Addr).add j)=some u) fun k hk=>?_⟩
 rw[Addr.add_lit,Addr.add_lit,Addr.add_lit];exact p k hk
theorem zdj{w:World}{v:Value}{l:List Rw}(hz:l.length<=1000000)(h:CS w 3 v l.length (rv l)):RwS w v l:=by
 obtain⟨a,c,rfl,hl,hc⟩:=h;refine⟨a,c,rfl,hz,fun h0=>?_⟩
 obtain⟨⟨b,o,s⟩,rfl,p⟩:=hc h0;have p0:=p 0 _ (zkl l 0 h0).1
 obtain rfl:s=none:=by
  have:=World.cell?_spot p0;simpa [Addr.add] using this
 refine⟨b,o,rfl,block_lt_of_cell (by simpa [Addr.add] using p0:w.cell? ⟨b,o,none⟩=_),fun k hk=>?_⟩
 obtain⟨q0,q1,q2⟩:=zkl l k hk;have r0:=p _ _ q0;have r1:=p _ _ q1;have r2:=p _ _ q2;rw[Addr.add_lit] at r0 r1 r2;exact⟨r0,r1,r2⟩
theorem zab(w:World)(o:Obj):Below w.heap.size w (w.alloc o):=(Below.refl _ _).alloc (Nat.le_refl _) o
theorem zgi:Tryz.prog.info? 35=some ((Tryz.prog.info? 35).getD default):=by kernel_rfl
theorem zcR:((Tryz.prog.info? 35).getD default).zero=some (.agg #[.int .i64 0,.string ⟨#[]⟩,.string ⟨#[]⟩]):=by kernel_rfl
theorem zcS:((Tryz.prog.info? 35).getD default).size=3:=by kernel_rfl
theorem zcT:((Tryz.prog.info? 35).getD default).bytes=40:=by kernel_rfl
theorem zdf(W:World)(x:Rw)(t:TypeId)(k:Nat)(hk:k=W.heap.size):CS (W.alloc (.cells #[.int .i64 x.1,.string x.2.1,.string x.2.2] t)) 3 (.slice (some ⟨k,0,none⟩) 1 1) 1 (rv [x]):=by
 subst hk;refine⟨_,_,rfl,rfl,fun _=>⟨_,rfl,fun j u hu=>?_⟩⟩
 rw[Addr.add_lit,Nat.zero_add,cell_of_row _ W.heap.size j _ t (0,0) (heap_alloc_new W _)];have:rv [x]=(#[Value.int .i64 x.1,Value.string x.2.1,Value.string x.2.2]:Array Value).toList:=rfl;rw[this] at hu;simpa using hu
attribute [local go_sem ↓] zcu
attribute [local go_sem] zal zaI zaJ zas zan
end
end Go.Proofs.YtefcmdmfgdcpmaaGreatDoor
