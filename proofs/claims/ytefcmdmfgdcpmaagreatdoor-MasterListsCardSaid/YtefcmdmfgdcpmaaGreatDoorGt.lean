/- Catalogs. -/
import Derived.Test.YtefcmdmfgdcpmaaGreatDoorChA
import Derived.Test.YtefcmdmfgdcpmaaGreatDoorRh
set_option maxRecDepth 8000
set_option maxHeartbeats 8000000
namespace Go.Proofs.YtefcmdmfgdcpmaaGreatDoor
open Go.RowKit
def zF0:Fu:=(En.zero,[],[])
def zbS(id:Int)(key:ByteArray):List Rw->Option ByteArray
 | []=>none
 | x::l=>if x.1=id∧x.2.1=key then some x.2.2 else zbS id key l
def zaS(key s:ByteArray):Fu × Int:=match zc6 (Ds.bl s) with
 | none=>(zF0,11)
 | some y=>if zfr y=Ds.bl key then (y,0) else (zF0,11)
def zbn(l:List Rw)(fl cd ca id kind:Int)(name:ByteArray):(Fu × Int) × Int :=
 if zaT kind name=⟨#[]⟩ then ((zF0,1),ca) else if ca+1=fl then ((zF0,cd),ca+1) else match zbS id (zaT kind name) l with
 | none=>((zF0,6),ca+1)
 | some s=>(zaS (zaT kind name) s,ca+1)
def zeU(l:List Rw)(fl cd id:Int)(name:ByteArray):List Int->Int->(Fu × Int) × Int
 | [],ca=>((zF0,6),ca)
 | k::ks,ca=>if (zbn l fl cd ca id k name).1.2=6 then zeU l fl cd id name ks (zbn l fl cd ca id k name).2 else zbn l fl cd ca id k name
def zbF(l:List Rw)(fl cd ca id:Int)(name:ByteArray):(Fu × Int) × Int :=
 if Ds.name (Ds.bl name)=false then ((zF0,1),ca) else zeU l fl cd id name [0,1,2] ca
def zbd(l:List Rw)(id kind:Int)(name:ByteArray):Fu × Int:=(zbn l 0 0 0 id kind name).1
def zcg(l:List Rw)(id:Int)(name:ByteArray):List Int->Fu × Int
 | []=>(zF0,6)
 | k::ks=>if (zbd l id k name).2=6 then zcg l id name ks else zbd l id k name
def zcJ(l:List Rw)(id:Int)(name:ByteArray):Fu × Int :=
 if Ds.name (Ds.bl name)=false then (zF0,1) else zcg l id name [0,1,2]
theorem zbJ(l:List Rw)(fl cd ca id kind:Int)(name:ByteArray):ca<=(zbn l fl cd ca id kind name).2∧(zbn l fl cd ca id kind name).2<=ca+1:=by
 unfold zbn;split
 · exact⟨Int.le_refl _,by show ca<=ca+1;omega⟩
 split
 · exact⟨by show ca<=ca+1;omega,Int.le_refl _⟩
 split
 · exact⟨by show ca<=ca+1;omega,Int.le_refl _⟩
 · exact⟨by show ca<=ca+1;omega,Int.le_refl _⟩
theorem zdg(l:List Rw)(fl cd ca id kind:Int)(name:ByteArray)(hf:fl<=0)(h0:0<=ca):(zbn l fl cd ca id kind name).1=zbd l id kind name:=by
 unfold zbd zbn;split
 · rfl
 rw[if_neg (by omega),if_neg (by omega)];split <;> rfl
theorem zjG(l:List Rw)(fl cd id:Int)(name:ByteArray)(hf:fl<=0):∀ (ks:List Int) (ca:Int),0<=ca->(zeU l fl cd id name ks ca).1=zcg l id name ks
 | [],_,_=>rfl
 | k::ks,ca,h0=>by
   have e1:=zdg l fl cd ca id k name hf h0;unfold zeU zcg;rw[e1];split
   · have:=zbJ l fl cd ca id k name;exact zjG l fl cd id name hf ks _ (by omega)
   · exact e1
theorem zdY(l:List Rw)(fl cd ca id:Int)(name:ByteArray)(hf:fl<=0)(h0:0<=ca):(zbF l fl cd ca id name).1=zcJ l id name:=by
 unfold zcJ zbF;split
 · rfl
 · exact zjG l fl cd id name hf _ _ h0
theorem zjE(l:List Rw)(fl cd id:Int)(name:ByteArray):∀ (ks:List Int) (ca:Int),ca<=(zeU l fl cd id name ks ca).2∧(zeU l fl cd id name ks ca).2<=ca+ks.length
 | [],_=>⟨Int.le_refl _,by simp [zeU]⟩
 | k::ks,ca=>by
   have h:=zbJ l fl cd ca id k name;unfold zeU;split
   · have:=zjE l fl cd id name ks (zbn l fl cd ca id k name).2;simp only[List.length_cons]
     omega
   · simp only[List.length_cons]
     omega
theorem zcY(l:List Rw)(fl cd ca id:Int)(name:ByteArray):ca<=(zbF l fl cd ca id name).2∧(zbF l fl cd ca id name).2<=ca+3:=by
 unfold zbF;split
 · exact⟨Int.le_refl _,by show ca<=ca+3;omega⟩
 · exact zjE l fl cd id name [0,1,2] ca
theorem zh4{id:Int}{key:ByteArray}{l:List Rw}{k:Nat}(hk:k<l.length)(h:¬ (l[k].1=id∧l[k].2.1=key)):zbS id key (l.drop (k+1))=zbS id key (l.drop k):=by
 rw[List.drop_eq_getElem_cons hk];exact (if_neg h).symm
theorem zo7{id:Int}{key:ByteArray}{l:List Rw}{k:Nat}(hk:k<l.length)(h:l[k].1=id∧l[k].2.1=key):zbS id key (l.drop k)=some l[k].2.2:=by
 rw[List.drop_eq_getElem_cons hk];exact if_pos h
def gtV(fl cd ca:Int)(o:Option ByteArray):Value:=if ca+1=fl then .tuple #[.string ⟨#[]⟩,.int .i64 cd] else match o with|none=>.tuple #[.string ⟨#[]⟩,.int .i64 6]|some x=>.tuple #[.string x,.int .i64 0]
theorem zuW(p:Nat)(sv:Value)(fl cd ca id:Int)(key:ByteArray)(l:List Rw)(w:World)(h:SHf w p sv fl cd ca)(hl:RwS w sv l)(hne:∀ b,sv.ownBlock=some b->b≠p)(h0:0<=ca)(h1:ca<1000000000) :
  Calls Tryz.prog 323 #[.pointer (some ⟨p,0,none⟩),.int .i64 id,.string key] w fun r w'=>r=.returned (gtV fl cd ca (zbS id key l))∧∃ q,w'=(w.setCell ⟨p,3,none⟩ (.int .i64 (ca+1))).drewN q:=by
 have hfl:=zie p sv fl cd ca w h h0 h1;obtain⟨hr,-⟩:=h;have c2:=zah hr 2 _ rfl;have c0:=zah hr 0 _ rfl
 have d2:(w.setCell ⟨p,3,none⟩ (.int .i64 (ca+1))).cell? ⟨p,2,none⟩=some (.int .i64 cd):=by
  rw[World.cell?_setCell_other _ _ _ _ (by intro h;cases h)];exact c2
 have d0:(w.setCell ⟨p,3,none⟩ (.int .i64 (ca+1))).cell? ⟨p,0,none⟩=some sv:=by
  rw[World.cell?_setCell_other _ _ _ _ (by intro h;cases h)];exact c0
 have hl2:RwS (w.setCell ⟨p,3,none⟩ (.int .i64 (ca+1))) sv l:=hl.keep (by simp) fun b hb hlt=>(zaH w ⟨p,3,none⟩ _).block b hlt (fun e=>hne b hb (Option.some.inj e))
 generalize w.setCell ⟨p,3,none⟩ (.int .i64 (ca+1))=W at hfl d2 d0 hl2 ⊢;clear hr c2 c0 hl hne;unfold gtV;by_cases hf:ca+1=fl
 · rw[decide_eq_true hf] at hfl;rw[if_pos hf];have HF:=lh hfl;clear hfl hf hl2;go_enter Tryz.func323,Tryz.ntmps323
   go_wp2_with (go_at_call 325;(with_reducible refine HF.out.mono ?_);rintro _ w2 ⟨rfl,q,rfl⟩)
   go_quiet (fail)
   go_wp2_with fail
   go_ret2
   exact⟨rfl,_,dN2 _ _ _⟩
 rw[decide_eq_false hf] at hfl;rw[if_neg hf];generalize hA:(match zbS id key l with|none=>Value.tuple #[.string ⟨#[]⟩,.int .i64 6]|some x=>.tuple #[.string x,.int .i64 0])=A;have HA:=lh hA;clear hA;have HF:=lh hfl;obtain⟨a,c,rfl,hz,hc⟩:=hl2;have HC:=lh hc;clear hfl hf hc;go_enter Tryz.func323,Tryz.ntmps323
 go_wp2_with (go_at_call 325;(with_reducible refine HF.out.mono ?_);rintro _ w2 ⟨rfl,q0,rfl⟩)
 go_loopw [8] (fun i wr=>∃ (k:Nat),k<=l.length∧i=.int .i64 k∧Hid (zbS id key (l.drop k)=zbS id key l)∧∃ q,wr=W.drewN q) (fun i _=>l.length - (intOf i).toNat)
 case atStart=>exact⟨0,Nat.zero_le _,rfl,lh rfl,_,rfl⟩
 case round =>
  obtain⟨k,hk,rfl,HJ,q,rfl⟩:=hrel;by_cases hlt:k<l.length
  · obtain⟨b,o,rfl,hb,hcell⟩:=HC.out (by omega);obtain⟨p0,p1,p2⟩:=hcell k hlt;have j1:(0:Int)<=(k:Int):=by omega
    have j2:(k:Int)<(l.length:Int):=by omega
    by_cases e1:l[k].1=id
    rotate_left
    · have t1:(l[k].1==id)=false:=by rw[beq_eq_false_iff_ne];exact e1
      have HQ:Hid (zbS id key (l.drop (k+1))=zbS id key l):=lh ((zh4 hlt (fun h=>e1 h.1)).trans HJ.out);clear e1 hcell;go_wp2_with fail
      go_roundw
      case rel=>exact⟨k+1,by omega,by go_num,HQ,_,rfl⟩
      case measure=>simp [intOf];omega
    have t1:(l[k].1==id)=true:=by rw[beq_iff_eq];exact e1
    have t3:=zei l[k].2.1 key;by_cases e3:l[k].2.1=key
    · rw[decide_eq_true e3] at t3;have HQ:Hid (zbS id key l=some l[k].2.2):=lh (HJ.out.symm.trans (zo7 hlt ⟨e1,e3⟩));clear e1 e3 hcell;go_wp2_with fail
      go_ret2
      exact⟨by rw[<-HA.out,HQ.out];rfl,_,rfl⟩
    · rw[decide_eq_false e3] at t3;have HQ:Hid (zbS id key (l.drop (k+1))=zbS id key l):=lh ((zh4 hlt (fun h=>e3 h.2)).trans HJ.out);clear e1 e3 hcell;go_wp2_with fail
      go_roundw
      case rel=>exact⟨k+1,by omega,by go_num,HQ,_,rfl⟩
      case measure=>simp [intOf];omega
  · obtain rfl:k=l.length:=by omega
    have HN:Hid (zbS id key l=none):=lh (by rw[<-HJ.out,List.drop_length];rfl);go_wp2_with fail
    go_ret2
    exact⟨by rw[<-HA.out,HN.out];rfl,_,rfl⟩
theorem zoJ(a : Addr)(n : Nat)(w : World) : (method (n + 1) 31 (.pointer (some a)) "Get").run Tryz.prog w = .ok (323, .pointer (some a)) w := by kernel_rfl
theorem zsS(p:Nat)(sv:Value)(l:List Rw)(fl cd ca id:Int)(key:ByteArray)(w0 w:World)(h:SHs w0 w p sv l fl cd ca)(h0:0<=ca)(h1:ca<1000000000) :
  Calls Tryz.prog 323 #[.pointer (some ⟨p,0,none⟩),.int .i64 id,.string key] w fun r w'=>r=.returned (gtV fl cd ca (zbS id key l))∧SHs w0 w' p sv l fl cd (ca+1)∧w.grownBy w' (some p):=by
 refine (zuW p sv fl cd ca id key l w h.f h.r h.ne h0 h1).mono ?_
 rintro _ w' ⟨rfl,q,rfl⟩;exact⟨rfl,(h.tick (ca+1) q).1,(h.tick (ca+1) q).2⟩
section
def EnR(B:Nat)(w':World)(x:Fu)(code:Int)(r:Ending):Prop :=
 ∃ (al gr:Value),r=.returned (.tuple #[.agg (x.1.vals al gr),.int .i64 code])∧IS w' al x.2.1∧GS w' gr x.2.2∧(∀ q,al.ownBlock=some q->B<=q)∧(∀ q,gr.ownBlock=some q->B<=q)
theorem EnR.zero(B:Nat)(w':World)(code:Int):EnR B w' zF0 code (.returned (.tuple #[.agg (zlit 0 ⟨#[]⟩),.int .i64 code])) :=
 ⟨.slice none 0 0,.slice none 0 0,by rw[zbE];rfl,IS.nil _,GS.nil _,(fun _ h=>by cases h),(fun _ h=>by cases h)⟩
theorem EnR.le{B C:Nat}{w':World}{x:Fu}{code:Int}{r:Ending}(h:EnR B w' x code r)(hl:C<=B):EnR C w' x code r:=by
 obtain⟨al,gr,h1,h2,h3,h4,h5⟩:=h;exact⟨al,gr,h1,h2,h3,fun q hq=>Nat.le_trans hl (h4 q hq),fun q hq=>Nat.le_trans hl (h5 q hq)⟩
theorem zqg{al:Value}{B C:Nat}(h:∀ q,al.ownBlock=some q->C<=q)(hl:B<C):∀ q,al.ownBlock=some q->B<q:=fun q hq=>Nat.lt_of_lt_of_le hl (h q hq)
theorem EnR.put{B:Nat}{W:World}{x:Fu}{al gr:Value}{code:Int}(hH:Held W B 33)(hI:IS W al x.2.1)(hG:GS W gr x.2.2)(h1:∀ q,al.ownBlock=some q->B<q)(h2:∀ q,gr.ownBlock=some q->B<q) :
  EnR B (W.setRow B (x.1.vals al gr)) x code (.returned (.tuple #[.agg (row (W.setRow B (x.1.vals al gr)) B),.int .i64 code])):=by
 have hk:∀ j,B+1<=j->j<W.heap.size->(W.setRow B (x.1.vals al gr)).heap[j]?=W.heap[j]?:=fun j h1 _=>zaX _ _ _ _ (by omega)
 refine⟨al,gr,congrArg (fun z=>Ending.returned (.tuple #[.agg z,.int .i64 code])) (zaQ hH _),hI.keep (B+1) (fun y hy=>h1 y hy) (by simp) hk,hG.keep (B+1) (fun y hy=>h2 y hy) (by simp) hk,fun q hq=>Nat.le_of_lt (h1 q hq),fun q hq=>Nat.le_of_lt (h2 q hq)⟩
theorem EnR.put0{B:Nat}{W:World}{code:Int}(hH:Held W B 33):EnR B (W.setRow B (zlit 0 ⟨#[]⟩)) zF0 code (.returned (.tuple #[.agg (row (W.setRow B (zlit 0 ⟨#[]⟩)) B),.int .i64 code])):=by
 rw[zbE];exact EnR.put (x:=zF0) hH (IS.nil _) (GS.nil _) (fun _ h=>by cases h) (fun _ h=>by cases h)
theorem zbu{B:Nat}{W:World}{cs:Array Value}(hH:Held W B 33)(hc:cs.size=33):(row (W.setRow B cs) B).size=32+1:=(congrArg Array.size (zaQ hH cs)).trans hc
theorem Held.grown{w w':World}{p:Option Nat}{g n:Nat}(h:Held w g n)(hg:w.grownBy w' p)(hne:p≠some g):Held w' g n:=by
 obtain⟨t,fr,hb⟩:=zbm h;have hlt:=(Array.getElem?_eq_some_iff.1 hb).1;have e:=hg.block g hlt (fun e=>hne e.symm);refine⟨?_,h.2.1,fun o=>(World.frozen?_of_block (a:=⟨g,o,none⟩) e).trans (h.2.2 o)⟩
 have:=h.1;unfold row at this ⊢;rw[e];exact this
attribute [local go_sem ↓] zaV zaW zaz za1
attribute [local go_sem] zav zap zal zaI zaJ zae zaq zai zaw zao zas zan zaa zaj zaf zaA zax zak zag zar zaG zaC zaE
theorem zgr(key s:ByteArray)(w:World)(hm:MaxL w)(hT:Tab w) :
  Calls Tryz.prog 102 #[.string key,.string s] w fun r w'=>EnR w.heap.size w' (zaS key s).1 (zaS key s).2 r∧Below w.heap.size w w':=by
 cases hdx:zc6 (Ds.bl s) with
 | none =>
   have hf:zaS key s=(zF0,11):=by unfold zaS;rw[hdx]
   rw[hf];have HD:=lh (fun W (b:Below w.heap.size w W)=>zn7 s W (hm.below b) (hT.below b) hdx);clear hf hdx;go_enter Tryz.func102,Tryz.ntmps102
   go_wp2_with (go_at_call 12;(refine (HD.out _ (by exact zbo)).mono ?_);rintro _ w3 ⟨a1,c1,a2,c2,rfl,hI,hGs,hb3⟩;have hone:=zau En.zero (.slice a1 0 c1) (.slice a2 0 c2) rfl rfl;have B3:=lh (below1 hb3);have H3:=zci w3 (.cells (En.zero.vals (.slice a1 0 c1) (.slice a2 0 c2)) 40) _ _ (Held.below (zmc w 40) hb3);clear hI hGs hb3)
   refine bodyPost_ret (zaL (n:=32) rfl Tryz.underlying40 rfl (by kernel_rfl) _ _ w.heap.size rfl (zbu H3 rfl)) rfl ?_
   exact⟨EnR.put0 H3,below_setRow (B3.out.alloc B3.out.size _) (Nat.le_refl _) _⟩
 | some y =>
   have hky:=ziQ y key;have HD:=lh (fun W (b:Below w.heap.size w W)=>zdn s y W (hm.below b) (hT.below b) hdx);have HK:=lh (fun W=>zd9 y.1.kind y.1.name W);by_cases hk:zfr y=Ds.bl key
   · have hf:zaS key s=(y,0):=by unfold zaS;rw[hdx];exact if_pos hk
     rw[decide_eq_true hk] at hky;rw[hf];clear hf hdx hk;generalize zaT y.1.kind y.1.name=kz at hky HK;go_enter Tryz.func102,Tryz.ntmps102
     go_wp2_with (first
      | (go_at_call 12;(refine (HD.out _ (by exact zbo)).mono ?_);rintro _ w3 ⟨a1,c1,a2,c2,rfl,hI,hGs,hb3,hf1,hf2⟩;have hone:=zau y.1 (.slice a1 y.2.1.length c1) (.slice a2 y.2.2.length c2) rfl rfl;have B3:=lh (below1 hb3);have H3:=zci w3 (.cells (y.1.vals (.slice a1 y.2.1.length c1) (.slice a2 y.2.2.length c2)) 40) _ _ (Held.below (zmc w 40) hb3);have HI:=lh hI;have HGS:=lh hGs;have HF1:=lh hf1;have HF2:=lh hf2;clear hI hGs hb3 hf1 hf2;have R0:=zai w3 (y.1.vals (.slice a1 y.2.1.length c1) (.slice a2 y.2.2.length c2)) 40 (0,0);have N0:=zah R0 0 _ (zaC _ _ _);have N1:=zah R0 1 _ (zaE _ _ _))
      | (go_at_call 70;(with_reducible refine (HK.out _).mono ?_);rintro _ w4 ⟨rfl,hb4⟩;have R4:=zaB hb4 R0 (by rw[zaa];decide);have H4:=H3.below hb4;have B4:=lh (below1 hb4);clear hb4))
     refine bodyPost_ret (zaL (n:=32) rfl Tryz.underlying40 rfl (by kernel_rfl) _ _ w.heap.size rfl (zbu H4 (zaa _ _ _))) rfl ?_
     exact⟨EnR.put (x:=y) H4 (HI.out.below B4.out) (HGS.out.below B4.out) (zqg HF1.out (by simp)) (zqg HF2.out (by simp)),below_setRow (bt B3.out B4.out) (Nat.le_refl _) _⟩
   · have hf:zaS key s=(zF0,11):=by unfold zaS;rw[hdx];exact if_neg hk
     rw[decide_eq_false hk] at hky;rw[hf];clear hf hdx hk;generalize zaT y.1.kind y.1.name=kz at hky HK;go_enter Tryz.func102,Tryz.ntmps102
     go_wp2_with (first
      | (go_at_call 12;(refine (HD.out _ (by exact zbo)).mono ?_);rintro _ w3 ⟨a1,c1,a2,c2,rfl,hI,hGs,hb3,hf1,hf2⟩;have hone:=zau y.1 (.slice a1 y.2.1.length c1) (.slice a2 y.2.2.length c2) rfl rfl;have B3:=lh (below1 hb3);have H3:=zci w3 (.cells (y.1.vals (.slice a1 y.2.1.length c1) (.slice a2 y.2.2.length c2)) 40) _ _ (Held.below (zmc w 40) hb3);clear hI hGs hb3 hf1 hf2;have R0:=zai w3 (y.1.vals (.slice a1 y.2.1.length c1) (.slice a2 y.2.2.length c2)) 40 (0,0);have N0:=zah R0 0 _ (zaC _ _ _);have N1:=zah R0 1 _ (zaE _ _ _))
      | (go_at_call 70;(with_reducible refine (HK.out _).mono ?_);rintro _ w4 ⟨rfl,hb4⟩;have H4:=H3.below hb4;have B4:=lh (bt B3.out (below1 hb4));clear hb4))
     refine bodyPost_ret (zaL (n:=32) rfl Tryz.underlying40 rfl (by kernel_rfl) _ _ w.heap.size rfl (zbu H4 rfl)) rfl ?_
     exact⟨EnR.put0 H4,below_setRow B4.out (Nat.le_refl _) _⟩
def CatR(w0 w w':World)(p:Nat)(sv:Value)(l:List Rw)(fl cd:Int)(g:(Fu × Int) × Int)(r:Ending):Prop :=
 EnR w.heap.size w' g.1.1 g.1.2 r∧SHs w0 w' p sv l fl cd g.2∧w.grownBy w' (some p)
theorem CatR.put{w0 w W:World}{p:Nat}{sv:Value}{l:List Rw}{fl cd ca c:Int}{x:Fu}{al gr:Value}{code:Int}(hS:SHs w0 w p sv l fl cd ca)(hH:Held W w.heap.size 33)(h3:SHs w0 W p sv l fl cd c)(hG:w.grownBy W (some p))(hI:IS W al x.2.1)(hg:GS W gr x.2.2)(h1:∀ q,al.ownBlock=some q->w.heap.size<q)(h2:∀ q,gr.ownBlock=some q->w.heap.size<q) :
  CatR w0 w (W.setRow w.heap.size (x.1.vals al gr)) p sv l fl cd ((x,code),c) (.returned (.tuple #[.agg (row (W.setRow w.heap.size (x.1.vals al gr)) w.heap.size),.int .i64 code])):=by
 have hb:Below w.heap.size W (W.setRow w.heap.size (x.1.vals al gr)):=below_setRow (Below.refl _ _) (Nat.le_refl _) _;exact⟨EnR.put hH hI hg h1 h2,h3.belowB hb hS.pl (fun h b hb=>zbZ hS.r h b hb),zay hG hb⟩
theorem CatR.put0{w0 w W:World}{p:Nat}{sv:Value}{l:List Rw}{fl cd ca c:Int}{code:Int}(hS:SHs w0 w p sv l fl cd ca)(hH:Held W w.heap.size 33)(h3:SHs w0 W p sv l fl cd c)(hG:w.grownBy W (some p)) :
  CatR w0 w (W.setRow w.heap.size (zlit 0 ⟨#[]⟩)) p sv l fl cd ((zF0,code),c) (.returned (.tuple #[.agg (row (W.setRow w.heap.size (zlit 0 ⟨#[]⟩)) w.heap.size),.int .i64 code])):=by
 rw[zbE];exact CatR.put (x:=zF0) hS hH h3 hG (IS.nil _) (GS.nil _) (fun _ h=>by cases h) (fun _ h=>by cases h)
theorem zdd(p:Nat)(sv:Value)(l:List Rw)(fl cd ca id kind:Int)(name:ByteArray)(w0 w:World)(hm:MaxL w0)(hT:Tab w0)(hS:SHs w0 w p sv l fl cd ca)(hc0:0<=ca)(hc1:ca<=100000)(hcd:cd≠0∨fl<=0) :
  Calls Tryz.prog 35 #[.iface 31 (.pointer (some ⟨p,0,none⟩)),.int .i64 id,.int .i64 kind,.string name] w fun r w'=>CatR w0 w w' p sv l fl cd (zbn l fl cd ca id kind name) r:=by
 have HK:=lh (fun W=>zd9 kind name W);have HS:=lh hS;have hpl:=hS.pl;have hmt:=zoJ ⟨p,0,none⟩;have hne:(some p:Option Nat)≠some w.heap.size:=fun e=>by have:=Option.some.inj e;omega
 have HZ:=lh (zmc w 40);clear hS;generalize hg:zbn l fl cd ca id kind name=g;unfold zbn at hg;by_cases hk:zaT kind name=⟨#[]⟩
 · rw[if_pos hk] at hg;subst hg;rw[hk] at HK;clear hk;go_enter Tryz.func35,Tryz.ntmps35
   go_wp2_with (go_at_call 70;(with_reducible refine (HK.out _).mono ?_);rintro _ w2 ⟨rfl,hb⟩;have H2:=HZ.out.below hb;have B2:=lh (below1 hb);clear hb)
   refine bodyPost_ret (zaL (n:=32) rfl Tryz.underlying40 rfl (by kernel_rfl) _ _ w.heap.size rfl (zbu H2 rfl)) rfl ?_
   have B3:=below_setRow B2.out (Nat.le_refl _) (zlit 0 ⟨#[]⟩);exact⟨EnR.put0 H2,HS.out.below B3,zad _ B3⟩
 rw[if_neg hk] at hg
 have e0:(zaT kind name).toList.isEmpty=false:=zbH _ (by
  rcases Nat.eq_zero_or_pos (zaT kind name).size with h|h
  · exact absurd (Ds.bl_inj (List.eq_nil_of_length_eq_zero (by rw[Ds.bl_length];exact h))) hk
  · exact h)
 clear hk;generalize zaT kind name=kz at HK hg e0;have hgt:=fun W (h:SHs w0 W p sv l fl cd ca)=>zsS p sv l fl cd ca id kz w0 W h hc0 (by omega)
 unfold gtV at hgt;by_cases hf:ca+1=fl
 · rw[if_pos hf] at hg hgt;subst hg;have HG:=lh hgt;have hcd':cd≠0:=by rcases hcd with h|h;exact h;omega
   have t1:(cd != 0)=true:=by rw[bne_iff_ne];exact hcd'
   have t2:(cd==0)=false:=by rw[beq_eq_false_iff_ne];exact hcd'
   clear hgt hcd hcd' hf;go_enter Tryz.func35,Tryz.ntmps35
   go_wp2_with (first
    | (go_at_call 70;(with_reducible refine (HK.out _).mono ?_);rintro _ w2 ⟨rfl,hb⟩;have H2:=HZ.out.below hb;have B2:=lh (below1 hb);have S2:=lh (HS.out.below B2.out);have z2:w.heap.size<w2.heap.size:=(by have:=hb.size;simp at this;omega);clear hb)
    | (go_at_call 323;(with_reducible refine (HG.out _ S2.out).mono ?_);rintro _ w3 ⟨rfl,s1,s2⟩;have S3:=lh s1;have G3:=lh s2;have H3:=H2.grown s2 hne;clear s1 s2))
   refine bodyPost_ret (zaL (n:=32) rfl Tryz.underlying40 rfl (by kernel_rfl) _ _ w.heap.size rfl (zbu H3 rfl)) rfl ?_
   exact CatR.put0 HS.out H3 S3.out (zat (zad _ B2.out) G3.out)
 rw[if_neg hf] at hg hgt;clear hf
 cases hr:zbS id kz l with
 | none =>
   rw[hr] at hg hgt;subst hg;have HG:=lh hgt;clear hgt hcd hr;go_enter Tryz.func35,Tryz.ntmps35
   go_wp2_with (first
    | (go_at_call 70;(with_reducible refine (HK.out _).mono ?_);rintro _ w2 ⟨rfl,hb⟩;have H2:=HZ.out.below hb;have B2:=lh (below1 hb);have S2:=lh (HS.out.below B2.out);have z2:w.heap.size<w2.heap.size:=(by have:=hb.size;simp at this;omega);clear hb)
    | (go_at_call 323;(with_reducible refine (HG.out _ S2.out).mono ?_);rintro _ w3 ⟨rfl,s1,s2⟩;have S3:=lh s1;have G3:=lh s2;have H3:=H2.grown s2 hne;clear s1 s2))
   refine bodyPost_ret (zaL (n:=32) rfl Tryz.underlying40 rfl (by kernel_rfl) _ _ w.heap.size rfl (zbu H3 rfl)) rfl ?_
   exact CatR.put0 HS.out H3 S3.out (zat (zad _ B2.out) G3.out)
 | some s =>
   rw[hr] at hg hgt;replace hg:(zaS kz s,ca+1)=g:=hg
   subst hg;have HG:=lh hgt;have HR:=lh (fun W (b:Below w0.heap.size w0 W)=>zgr kz s W (hm.below b) (hT.below b));clear hgt hcd hr;generalize zaS kz s=xc at HR ⊢;obtain⟨x,code⟩:=xc;go_enter Tryz.func35,Tryz.ntmps35
   go_wp2_with (first
    | (go_at_call 70;(with_reducible refine (HK.out _).mono ?_);rintro _ w2 ⟨rfl,hb⟩;have H2:=HZ.out.below hb;have B2:=lh (below1 hb);have S2:=lh (HS.out.below B2.out);have z2:w.heap.size<w2.heap.size:=(by have:=hb.size;simp at this;omega);clear hb)
    | (go_at_call 323;(with_reducible refine (HG.out _ S2.out).mono ?_);rintro _ w3 ⟨rfl,s1,s2⟩;have S3:=lh s1;have G3:=lh s2;have H3:=H2.grown s2 hne;clear s1 s2)
    | (go_at_call 102;(refine (HR.out _ S3.out.b).mono ?_);rintro _ w4 ⟨⟨al,gr,rfl,hI,hGs,hf1,hf2⟩,hb4⟩;have hone:=zau x.1 al gr (zaP hI) (zaO hGs);have H4:=H3.below hb4;have HI:=lh hI;have HGS:=lh hGs;have HF1:=lh hf1;have HF2:=lh hf2;have B4:=lh hb4;clear hI hGs hf1 hf2 hb4))
   refine bodyPost_ret (zaL (n:=32) rfl Tryz.underlying40 rfl (by kernel_rfl) _ _ w.heap.size rfl (zbu H4 (zaa _ _ _))) rfl ?_
   have z3:=(zat (zad _ B2.out) G3.out).size;exact CatR.put (x:=x) HS.out H4 (S3.out.below B4.out) (zay (zat (zad _ B2.out) G3.out) (B4.out.mono z3)) HI.out HGS.out (fun q hq=>by have:=HF1.out q hq;have:=G3.out.size;omega) (fun q hq=>by have:=HF2.out q hq;have:=G3.out.size;omega)
theorem zeX(p:Nat)(sv:Value)(l:List Rw)(fl cd ca id:Int)(name:ByteArray)(w0 w:World)(hm:MaxL w0)(hT:Tab w0)(hS:SHs w0 w p sv l fl cd ca)(hc0:0<=ca)(hc1:ca<=90000)(hcd:cd≠0∧cd≠6∨fl<=0) :
  Calls Tryz.prog 39 #[.iface 31 (.pointer (some ⟨p,0,none⟩)),.int .i64 id,.string name] w fun r w'=>CatR w0 w w' p sv l fl cd (zbF l fl cd ca id name) r:=by
 have HV:=lh (fun W (b:Below w0.heap.size w0 W)=>zbh name W (hm.below b));have HS:=lh hS;have hpl:=hS.pl;have hcd2:cd≠0∨fl<=0:=by omega
 have hne:(some p:Option Nat)≠some w.heap.size:=fun e=>by have:=Option.some.inj e;omega
 have HZ:=lh (zmc w 40);have HG:=lh (fun (c k:Int) W (h:SHs w0 W p sv l fl cd c) (h0:0<=c) (h1:c<=100000)=>zdd p sv l fl cd c id k name w0 W hm hT h h0 h1 hcd2);clear hS hm hT hcd hcd2;generalize hg:zbF l fl cd ca id name=g;unfold zbF at hg;cases hv:Ds.name (Ds.bl name)
 · rw[if_pos hv] at hg;subst hg;rw[hv] at HV;clear hv;go_enter Tryz.func39,Tryz.ntmps39
   go_wp2_with (go_at_call 34;(with_reducible refine (HV.out _ (by exact (HS.out.below (zab _ _)).b)).mono ?_);rintro _ w2 ⟨rfl,hb⟩;have H2:=HZ.out.below hb;have B2:=lh (below1 hb);clear hb)
   refine bodyPost_ret (zaL (n:=32) rfl Tryz.underlying40 rfl (by kernel_rfl) _ _ w.heap.size rfl (zbu H2 rfl)) rfl ?_
   exact CatR.put0 HS.out H2 (HS.out.below B2.out) (zad _ B2.out)
 rw[if_neg (by rw[hv];simp)] at hg;rw[hv] at HV;have HGG:=lh hg;clear hv hg;go_enter Tryz.func39,Tryz.ntmps39
 go_wp2_with (go_at_call 34;(with_reducible refine (HV.out _ (by exact (HS.out.below (zab _ _)).b)).mono ?_);rintro _ w2 ⟨rfl,hb⟩;have H2:=HZ.out.below hb;have B2:=lh (below1 hb);have z2:w.heap.size<w2.heap.size:=(by have:=hb.size;simp at this;omega);clear hb)
 go_loopw [18] (fun i wr=>∃ (k:Nat) (c:Int),k<=3∧i=.int .i64 k∧0<=c∧c<=ca+k∧Hid (zeU l fl cd id name (([0,1,2]:List Int).drop k) c=g)∧SHs w0 wr p sv l fl cd c∧w.grownBy wr (some p)∧Held wr w.heap.size 33∧w2.heap.size<wr.heap.size∧(∀ j,j<3->wr.cell? ⟨w2.heap.size,j,none⟩=some (.int .i64 j))) (fun i _=>3 - (intOf i).toNat)
 case atStart =>
  refine⟨0,ca,by decide,rfl,hc0,by simp,HGG,(HS.out.below B2.out).below (zab _ _),zad _ (bt B2.out (zab _ _)),zci _ _ _ _ H2,by simp,fun j hj=>?_⟩
  rw[cell_of_row _ _ j _ 3 (0,0) (heap_alloc_new w2 _)];rcases (by omega:j=0∨j=1∨j=2) with rfl|rfl|rfl <;> rfl
 case round =>
  obtain⟨k,c,hk,rfl,h0,h1,HH,hs,hg,hH,hlt2,hcell⟩:=hrel;have HSr:=lh hs;have HGr:=lh hg;have HC:=lh hcell;clear hs hg;by_cases hlt:k<3
  · have p0:=hcell k hlt
    have hd:(([0,1,2]:List Int).drop k)=(k:Int)::(([0,1,2]:List Int).drop (k+1)):=by
     rcases (by omega:k=0∨k=1∨k=2) with rfl|rfl|rfl <;> rfl
    have hstep:=HH.out;rw[hd] at hstep;unfold zeU at hstep;have hget:=HG.out c k wr HSr.out h0 (by omega);have hca:=zbJ l fl cd c id k name;generalize zbn l fl cd c id k name=gg at hget hca hstep;obtain⟨⟨x,code⟩,cb⟩:=gg;dsimp only at hca hstep;have HGE:=lh hget;have j1:(0:Int)<=(k:Int):=by omega
    have j2:(k:Int)<3:=by omega
    have hwr:w.heap.size<wr.heap.size:=by omega
    clear hget hcell hd HH;by_cases h6:code=6
    · rw[if_pos h6] at hstep;have HST:=lh hstep;have t1:(code != 6)=false:=by rw[h6];rfl
      clear hstep;go_wp2_with (go_at_call 35;(refine HGE.out.mono ?_);rintro _ w3 ⟨⟨al,gr,rfl,hI,hGs,hf1,hf2⟩,hs3,hg3⟩;have hone:=zau x.1 al gr (zaP hI) (zaO hGs);have S3:=lh hs3;have G3:=lh hg3;clear hI hGs hf1 hf2 hs3 hg3)
      go_roundw
      case rel =>
       have z3:=G3.out.size;refine⟨k+1,cb,by omega,by go_num,by omega,by omega,HST,S3.out.below (zab _ _),zay (zat HGr.out G3.out) ((zab _ _).mono (by omega)),zci _ _ _ _ (hH.grown G3.out hne),by simp;omega,fun j hj=>?_⟩
       rw[<-HC.out j hj];exact World.cell?_of_block (a:=⟨w2.heap.size,j,none⟩) ((heap_alloc_old w3 _ (show w2.heap.size<w3.heap.size by omega)).trans (G3.out.block w2.heap.size hlt2 (fun e:(some w2.heap.size:Option Nat)=some p=>by have:=Option.some.inj e;omega)))
      case measure=>simp [intOf];omega
    · rw[if_neg h6] at hstep;subst hstep;have t1:(code != 6)=true:=by rw[bne_iff_ne];exact h6
      go_wp2_with (go_at_call 35;(refine HGE.out.mono ?_);rintro _ w3 ⟨⟨al,gr,rfl,hI,hGs,hf1,hf2⟩,hs3,hg3⟩;have hone:=zau x.1 al gr (zaP hI) (zaO hGs);have S3:=lh hs3;have G3:=lh hg3;have HI:=lh hI;have HGS:=lh hGs;have HF1:=lh hf1;have HF2:=lh hf2;have H3:=zci w3 (.cells (x.1.vals al gr) 40) _ _ (hH.grown hg3 hne);clear hI hGs hf1 hf2 hs3 hg3)
      refine bodyPost_ret (zaL (n:=32) rfl Tryz.underlying40 rfl (by kernel_rfl) _ _ w.heap.size rfl (zbu H3 (zaa _ _ _))) rfl ?_
      exact CatR.put (x:=x) HS.out H3 (S3.out.below (zab _ _)) (zay (zat HGr.out G3.out) ((zab _ _).mono (by have:=G3.out.size;omega))) (HI.out.below (zab _ _)) (HGS.out.below (zab _ _)) (fun q hq=>by have:=HF1.out q hq;omega) (fun q hq=>by have:=HF2.out q hq;omega)
  · obtain rfl:k=3:=by omega
    have hstep:((zF0,6),c)=g:=HH.out;subst hstep;go_wp2_with fail
    refine bodyPost_ret (zaL (n:=32) rfl Tryz.underlying40 rfl (by kernel_rfl) _ _ w.heap.size rfl (zbu hH rfl)) rfl ?_
    exact CatR.put0 HS.out hH HSr.out HGr.out
end
section
attribute [local go_sem ↓] zaV zaW zaz za1
attribute [local go_sem] zav zap zal zaI zaJ zae zaq zai zaw zao zas zan zaa zaj zaf zaA zax zak zag zar zaG zaC zaE
def RatR(w w':World)(g:Fu × Int)(r:Ending):Prop:=EnR w.heap.size w' g.1 g.2 r∧Below w.heap.size w w'
theorem RatR.put{w W:World}{x:Fu}{al gr:Value}{code:Int}(hH:Held W w.heap.size 33)(hb:Below w.heap.size w W)(hI:IS W al x.2.1)(hg:GS W gr x.2.2)(h1:∀ q,al.ownBlock=some q->w.heap.size<q)(h2:∀ q,gr.ownBlock=some q->w.heap.size<q) :
  RatR w (W.setRow w.heap.size (x.1.vals al gr)) (x,code) (.returned (.tuple #[.agg (row (W.setRow w.heap.size (x.1.vals al gr)) w.heap.size),.int .i64 code])) :=
 ⟨EnR.put hH hI hg h1 h2,below_setRow hb (Nat.le_refl _) _⟩
theorem RatR.put0{w W:World}{code:Int}(hH:Held W w.heap.size 33)(hb:Below w.heap.size w W) :
  RatR w (W.setRow w.heap.size (zlit 0 ⟨#[]⟩)) (zF0,code) (.returned (.tuple #[.agg (row (W.setRow w.heap.size (zlit 0 ⟨#[]⟩)) w.heap.size),.int .i64 code])) :=
 ⟨EnR.put0 hH,below_setRow hb (Nat.le_refl _) _⟩
end
section
def za7(n:Int)(s:ByteArray):ByteArray:=⟨(Ds.first n (Ds.bl s)).toArray⟩
def dn:Nat->List Int
 | 0=>[]
 | k+1=>((k+1:Nat):Int)::dn k
def zdl(l:List Rw)(fl cd:Int)(name:ByteArray):List Int->Int->(Int × Int) × Int
 | [],ca=>((1,0),ca)
 | n::ns,ca=>match zbn l fl cd ca 1 3 (za7 n name) with
   | ((x,c),cb)=>if c=0 then ((x.1.cat,0),cb) else if c=6 then zdl l fl cd name ns cb else ((0,c),cb)
def zb0(l:List Rw)(fl cd ca:Int)(name:ByteArray):(Int × Int) × Int :=
 if Ds.name (Ds.bl name)=false then ((0,1),ca) else zdl l fl cd name (dn 2) ca
def zkN(l:List Rw)(fl cd ca id:Int)(name:ByteArray):(Fu × Int × Int) × Int :=
 match zbF l fl cd ca id name with
 | ((x,c1),cc)=>if c1≠0 then ((zF0,0,c1),cc) else if x.1.kind≠2 then ((x,id,0),cc) else
  match zbF l fl cd cc id x.1.target with
  | ((y,c2),ce)=>if c2≠0 then ((zF0,0,c2),ce) else if y.1.kind=2 then ((zF0,0,7),ce) else ((y,id,0),ce)
def zeN(l:List Rw)(fl cd ca:Int)(name:ByteArray):(Fu × Int × Int) × Int :=
 match zb0 l fl cd ca name with
 | ((id,c),cb)=>if c≠0 then ((zF0,0,c),cb) else zkN l fl cd cb id name
def zbv(l:List Rw)(name:ByteArray):List Int->Int × Int
 | []=>(1,0)
 | n::ns=>match zbd l 1 3 (za7 n name) with
   | (x,c)=>if c=0 then (x.1.cat,0) else if c=6 then zbv l name ns else (0,c)
def zaN(l:List Rw)(name:ByteArray):Int × Int:=if Ds.name (Ds.bl name)=false then (0,1) else zbv l name (dn 2)
def zcC(l:List Rw)(name:ByteArray):Fu × Int × Int :=
 match zaN l name with
 | (id,c)=>if c≠0 then (zF0,0,c) else
  match zcJ l id name with
  | (x,c1)=>if c1≠0 then (zF0,0,c1) else if x.1.kind≠2 then (x,id,0) else
   match zcJ l id x.1.target with
   | (y,c2)=>if c2≠0 then (zF0,0,c2) else if y.1.kind=2 then (zF0,0,7) else (y,id,0)
theorem zio(l:List Rw)(fl cd:Int)(name:ByteArray)(hf:fl<=0):∀ (ns:List Int) (ca:Int),0<=ca->(zdl l fl cd name ns ca).1=zbv l name ns∧0<=(zdl l fl cd name ns ca).2
 | [],_,h0=>⟨rfl,h0⟩
 | n::ns,ca,h0=>by
   have e1:=zdg l fl cd ca 1 3 (za7 n name) hf h0;have e2:=zbJ l fl cd ca 1 3 (za7 n name);unfold zdl zbv;rw[<-e1];generalize zbn l fl cd ca 1 3 (za7 n name)=g at e2;obtain⟨⟨x,c⟩,cb⟩:=g;dsimp only at e2 ⊢;split
   · exact⟨rfl,by omega⟩
   split
   · exact zio l fl cd name hf ns cb (by omega)
   · exact⟨rfl,by omega⟩
theorem zel(l:List Rw)(fl cd ca:Int)(name:ByteArray)(hf:fl<=0)(h0:0<=ca):(zb0 l fl cd ca name).1=zaN l name∧0<=(zb0 l fl cd ca name).2:=by
 unfold zb0 zaN;split
 · exact⟨rfl,h0⟩
 · exact zio l fl cd name hf _ _ h0
theorem zhQ(l:List Rw)(fl cd ca:Int)(name:ByteArray)(hf:fl<=0)(h0:0<=ca):(zeN l fl cd ca name).1=zcC l name:=by
 have e1:=zel l fl cd ca name hf h0;unfold zeN zcC zkN;rw[<-e1.1];have h1:=e1.2;generalize zb0 l fl cd ca name=g at h1;obtain⟨⟨id,c⟩,cb⟩:=g;dsimp only at h1 ⊢;split
 · rfl
 have e2:=zdY l fl cd cb id name hf h1;have h2:=(zcY l fl cd cb id name).1;rw[<-e2];generalize zbF l fl cd cb id name=g at h2;obtain⟨⟨x,c1⟩,cc⟩:=g;dsimp only at h2 ⊢;split
 · rfl
 split
 · rfl
 have e3:=zdY l fl cd cc id x.1.target hf (by omega);rw[<-e3];generalize zbF l fl cd cc id x.1.target=g;obtain⟨⟨y,c2⟩,ce⟩:=g;dsimp only;split
 · rfl
 split <;> rfl
theorem zin(l:List Rw)(fl cd:Int)(name:ByteArray):∀ (ns:List Int) (ca:Int),ca<=(zdl l fl cd name ns ca).2∧(zdl l fl cd name ns ca).2<=ca+ns.length
 | [],_=>⟨Int.le_refl _,by simp [zdl]⟩
 | n::ns,ca=>by
   have e2:=zbJ l fl cd ca 1 3 (za7 n name);unfold zdl;generalize zbn l fl cd ca 1 3 (za7 n name)=g at e2;obtain⟨⟨x,c⟩,cb⟩:=g;dsimp only at e2 ⊢;have:=zin l fl cd name ns cb;simp only[List.length_cons]
   split
   · dsimp only;omega
   split
   · omega
   · dsimp only;omega
theorem zim(l:List Rw)(fl cd ca:Int)(name:ByteArray):ca<=(zb0 l fl cd ca name).2∧(zb0 l fl cd ca name).2<=ca+2:=by
 unfold zb0;split
 · exact⟨Int.le_refl _,by show ca<=ca+2;omega⟩
 · exact zin l fl cd name (dn 2) ca
attribute [local go_sem ↓] zaV zaW zaz za1
attribute [local go_sem] zav zap zal zaI zaJ zae zaq zai zaw zao zas zan zaa zaj zaf zaA zax zak zag zar zaG zaC zaE
theorem ze6(p:Nat)(sv:Value)(l:List Rw)(fl cd ca:Int)(name:ByteArray)(w0 w:World)(hm:MaxL w0)(hT:Tab w0)(hS:SHs w0 w p sv l fl cd ca)(hc0:0<=ca)(hc1:ca<=90000)(hcd:cd≠0∧cd≠6∨fl<=0) :
  Calls Tryz.prog 13 #[.iface 31 (.pointer (some ⟨p,0,none⟩)),.string name] w fun r w'=>r=.returned (.tuple #[.int .i64 (zb0 l fl cd ca name).1.1,.int .i64 (zb0 l fl cd ca name).1.2])∧SHs w0 w' p sv l fl cd (zb0 l fl cd ca name).2∧w.grownBy w' (some p):=by
 have HV:=lh (fun W (b:Below w0.heap.size w0 W)=>zbh name W (hm.below b));have HF:=lh (fun n W (b:Below w0.heap.size w0 W)=>zn8 n name W (hm.below b));have HS:=lh hS;have hcd2:cd≠0∨fl<=0:=by omega
 have HG:=lh (fun (c k:Int) nm W (h:SHs w0 W p sv l fl cd c) (h0:0<=c) (h1:c<=100000)=>zdd p sv l fl cd c 1 k nm w0 W hm hT h h0 h1 hcd2);clear hS hm hT hcd hcd2;generalize hg:zb0 l fl cd ca name=g;unfold zb0 at hg;cases hv:Ds.name (Ds.bl name)
 rw[if_pos hv] at hg;subst hg;rw[hv] at HV;clear hv;rotate_left;rw[if_neg (by rw[hv];simp)] at hg;rw[hv] at HV;have HGG:=lh hg;clear hv hg;rotate_left
 iterate 1
  focus
   go_enter Tryz.func13,Tryz.ntmps13
   go_wp2_with (go_at_call 34;(with_reducible refine (HV.out _ HS.out.b).mono ?_);rintro _ w2 ⟨rfl,hb⟩;have B2:=lh hb;clear hb)
   go_ret2
   exact⟨rfl,HS.out.below B2.out,zad _ B2.out⟩
 go_enter Tryz.func13,Tryz.ntmps13
 go_wp2_with (go_at_call 34;(with_reducible refine (HV.out _ HS.out.b).mono ?_);rintro _ w2 ⟨rfl,hb⟩;have B2:=lh hb;clear hb)
 go_loopw [6] (fun i wr=>∃ (k:Nat) (c:Int),k<=2∧i=.int .i64 k∧0<=c∧c+k<=ca+2∧Hid (zdl l fl cd name (dn k) c=g)∧SHs w0 wr p sv l fl cd c∧w.grownBy wr (some p)) (fun i _=>(intOf i).toNat)
 case atStart=>exact⟨2,ca,by decide,rfl,hc0,by omega,HGG,HS.out.below B2.out,zad _ B2.out⟩
 case round =>
  obtain⟨k,c,hk,rfl,h0,h1,HH,hs,hg⟩:=hrel;have HSr:=lh hs;have HGr:=lh hg;clear hs hg
  cases k with
  | zero =>
    have hstep:((1,0),c)=g:=HH.out;subst hstep;go_wp2_with fail
    go_ret2
    exact⟨rfl,HSr.out,HGr.out⟩
  | succ k =>
    have hstep:=HH.out;unfold dn zdl za7 at hstep;have hfst:=HF.out ((k+1:Nat):Int);generalize (⟨(Ds.first ((k+1:Nat):Int) (Ds.bl name)).toArray⟩:ByteArray)=nm at hfst hstep;clear HH;generalize hkn:((k+1:Nat):Int)=kn at hfst h1 ⊢;have k1:1<=kn:=by omega
    have k2:kn<=2:=by omega
    have K3:=lh (show kn=(k:Int)+1 by omega);clear hkn;have hget:=fun W (h:SHs w0 W p sv l fl cd c)=>HG.out c 3 nm W h h0 (by omega)
    have hca:=zbJ l fl cd c 1 3 nm;generalize zbn l fl cd c 1 3 nm=gg at hget hca hstep;obtain⟨⟨x,code⟩,cb⟩:=gg;dsimp only at hca hstep;have HGE:=lh hget;have HFE:=lh hfst;clear hget hfst;by_cases hc0':code=0
    · rw[if_pos hc0'] at hstep;subst hstep hc0'
      go_wp2_with (first
       | (go_at_call 36;(with_reducible refine (HFE.out _ HSr.out.b).mono ?_);rintro _ w2' ⟨rfl,hb⟩;have B3:=lh hb;clear hb)
       | (go_at_call 35;(refine (HGE.out _ (HSr.out.below B3.out)).mono ?_);rintro _ w3 ⟨⟨al,gr,rfl,hI,hGs,hf1,hf2⟩,hs3,hg3⟩;have hone:=zau x.1 al gr (zaP hI) (zaO hGs);have S3:=lh hs3;have G3:=lh hg3;have R3:=zai w3 (x.1.vals al gr) 40 (0,0);have N3:=zah R3 30 _ (zbM _ _ _);clear hI hGs hf1 hf2 hs3 hg3))
      go_ret2
      exact⟨rfl,S3.out.below (zab _ _),zay (zat (zat HGr.out (zad _ B3.out)) G3.out) ((zab _ _).mono (by have:=(zat (zat HGr.out (zad _ B3.out)) G3.out).size;omega))⟩
    rw[if_neg hc0'] at hstep;have t0:(code==0)=false:=by rw[beq_eq_false_iff_ne];exact hc0'
    by_cases h6:code=6
    · rw[if_pos h6] at hstep;have HST:=lh hstep;have t1:(code==6)=true:=by rw[h6];rfl
      clear hstep hc0'
      go_wp2_with (first
       | (go_at_call 36;(with_reducible refine (HFE.out _ HSr.out.b).mono ?_);rintro _ w2' ⟨rfl,hb⟩;have B3:=lh hb;clear hb)
       | (go_at_call 35;(refine (HGE.out _ (HSr.out.below B3.out)).mono ?_);rintro _ w3 ⟨⟨al,gr,rfl,hI,hGs,hf1,hf2⟩,hs3,hg3⟩;have hone:=zau x.1 al gr (zaP hI) (zaO hGs);have S3:=lh hs3;have G3:=lh hg3;clear hI hGs hf1 hf2 hs3 hg3))
      go_roundw
      case rel=>exact⟨k,cb,by omega,by have:=K3.out;first|(go_num;done)|(congr 1;omega),by omega,by have:=K3.out;omega,HST,S3.out.below (zab _ _),zay (zat (zat HGr.out (zad _ B3.out)) G3.out) ((zab _ _).mono (by have:=(zat (zat HGr.out (zad _ B3.out)) G3.out).size;omega))⟩
      case measure=>have:=K3.out;simp [intOf];omega
    · rw[if_neg h6] at hstep;subst hstep;have t1:(code==6)=false:=by rw[beq_eq_false_iff_ne];exact h6
      go_wp2_with (first
       | (go_at_call 36;(with_reducible refine (HFE.out _ HSr.out.b).mono ?_);rintro _ w2' ⟨rfl,hb⟩;have B3:=lh hb;clear hb)
       | (go_at_call 35;(refine (HGE.out _ (HSr.out.below B3.out)).mono ?_);rintro _ w3 ⟨⟨al,gr,rfl,hI,hGs,hf1,hf2⟩,hs3,hg3⟩;have hone:=zau x.1 al gr (zaP hI) (zaO hGs);have S3:=lh hs3;have G3:=lh hg3;clear hI hGs hf1 hf2 hs3 hg3))
      go_ret2
      exact⟨rfl,S3.out.below (zab _ _),zay (zat (zat HGr.out (zad _ B3.out)) G3.out) ((zab _ _).mono (by have:=(zat (zat HGr.out (zad _ B3.out)) G3.out).size;omega))⟩
end
section
attribute [local go_sem ↓] zaV zaW zaz za1
attribute [local go_sem] zav zap zal zaI zaJ zae zaq zai zaw zao zas zan zaa zaj zaf zaA zax zak zag zar zaG zaC zaE
def En3(B:Nat)(w':World)(g:Fu × Int × Int)(r:Ending):Prop :=
 ∃ (al gr:Value),r=.returned (.tuple #[.agg (g.1.1.vals al gr),.int .i64 g.2.1,.int .i64 g.2.2])∧IS w' al g.1.2.1∧GS w' gr g.1.2.2∧(∀ q,al.ownBlock=some q->B<=q)∧(∀ q,gr.ownBlock=some q->B<=q)
theorem En3.put{B:Nat}{W:World}{x:Fu}{al gr:Value}{id code:Int}(hH:Held W B 33)(hI:IS W al x.2.1)(hG:GS W gr x.2.2)(h1:∀ q,al.ownBlock=some q->B<q)(h2:∀ q,gr.ownBlock=some q->B<q) :
  En3 B (W.setRow B (x.1.vals al gr)) (x,id,code) (.returned (.tuple #[.agg (row (W.setRow B (x.1.vals al gr)) B),.int .i64 id,.int .i64 code])):=by
 have hk:∀ j,B+1<=j->j<W.heap.size->(W.setRow B (x.1.vals al gr)).heap[j]?=W.heap[j]?:=fun j h1 _=>zaX _ _ _ _ (by omega)
 refine⟨al,gr,congrArg (fun z=>Ending.returned (.tuple #[.agg z,.int .i64 id,.int .i64 code])) (zaQ hH _),hI.keep (B+1) (fun y hy=>h1 y hy) (by simp) hk,hG.keep (B+1) (fun y hy=>h2 y hy) (by simp) hk,fun q hq=>Nat.le_of_lt (h1 q hq),fun q hq=>Nat.le_of_lt (h2 q hq)⟩
theorem En3.put0{B:Nat}{W:World}{code:Int}(hH:Held W B 33):En3 B (W.setRow B (zlit 0 ⟨#[]⟩)) (zF0,0,code) (.returned (.tuple #[.agg (row (W.setRow B (zlit 0 ⟨#[]⟩)) B),.int .i64 0,.int .i64 code])):=by
 rw[zbE];exact En3.put (x:=zF0) hH (IS.nil _) (GS.nil _) (fun _ h=>by cases h) (fun _ h=>by cases h)
theorem En3.le{B C:Nat}{w':World}{g:Fu × Int × Int}{r:Ending}(h:En3 B w' g r)(hl:C<=B):En3 C w' g r:=by
 obtain⟨al,gr,h1,h2,h3,h4,h5⟩:=h;exact⟨al,gr,h1,h2,h3,fun q hq=>Nat.le_trans hl (h4 q hq),fun q hq=>Nat.le_trans hl (h5 q hq)⟩
end
section
def zmj:Value->Bool|.int .i64 _=>true|_=>false
theorem zmk(k:Int):zmj (.int .i64 k)=true:=rfl
theorem zqX(zs cs:Array Value)(v:Value)(hz:zs.size=34)(hc:cs.size=33) :
  (Array.foldl (fun cs (x:Value × Nat)=>cs.setIfInBounds x.snd x.fst) zs cs.zipIdx 0 33).setIfInBounds 33 v=cs.push v∧(Array.foldl (fun cs (x:Value × Nat)=>cs.setIfInBounds x.snd x.fst) zs cs.zipIdx 0 33).size=34:=by
 have e1:Array.foldl (fun cs (x:Value × Nat)=>cs.setIfInBounds x.snd x.fst) zs cs.zipIdx 0 33=over zs 0 cs.toList:=by
  have hs:cs.zipIdx.size=33:=by simp [hc]
  rw[<-hs,<-Array.foldl_toList,Array.toList_zipIdx,zet]
 rw[e1];refine⟨?_,by rw[zd6];exact hz⟩
 have:=zj3 cs.toList [v] 0 zs;rw[Array.length_toList,hc] at this;have e2:over (over zs 0 cs.toList) (0+33) [v]=(over zs 0 cs.toList).setIfInBounds 33 v:=rfl;rw[<-e2,this,<-Array.toList_push];exact ze7 _ _ (by rw[hz,Array.size_push,hc])
def fc(cs:Array Value)(v:Value):Array Value:=cs.push v
theorem zlP(cs:Array Value)(v:Value):(fc cs v).size=cs.size+1:=by unfold fc;rw[Array.size_push]
theorem ztx(ev:Operand->Value)(w:World)(dst x y t pos af gd)(h3:zbC (ev x)=true)(h4:(zaK (ev x)).size=33)(h5:zmj (ev y)=true) :
  (execOp ev ⟨dst,.build 95 #[(0,x),(1,y)],t,pos,af,gd⟩).run Tryz.prog w=.ok (.value (.agg (fc (zaK (ev x)) (ev y)))) w:=by
 obtain⟨cs,hc⟩:∃ cs,ev x=.agg cs:=by
  unfold zbC at h3;split at h3
  · rename_i g h;exact⟨g,h⟩
  · cases h3
 obtain⟨k,hk⟩:∃ k,ev y=.int .i64 k:=by
  unfold zmj at h5;split at h5
  · rename_i g h;exact⟨g,h⟩
  · cases h5
 rw[hc,zae] at h4 ⊢;rw[hk];unfold fc;go_simp
 have hb:=fun zs hz=>zqX zs cs (.int .i64 k) hz h4
 rw[(hb _ rfl).1,(hb _ rfl).2];rfl
theorem zvH(ev:Operand->Value)(w:World)(dst x t pos af gd)(h1:zbA (ev x)=true)(h2:(row w (za0 (ev x))).size=34) :
  (execOp ev ⟨dst,.load 95 x,t,pos,af,gd⟩).run Tryz.prog w=.ok (.value (.agg (row w (za0 (ev x))))) w :=
 zb2 ev w _ 33 _ Tryz.underlying95 rfl (by kernel_rfl) dst x t pos af gd h1 h2
theorem zv7(ev:Operand->Value)(w:World)(zs:Array Value)(t:TypeId)(dst x y t' pos af gd)(h0:zs.size=34)(h1:zbA (ev x)=true)(h2:za0 (ev x)=w.heap.size)(h3:zbC (ev y)=true)(h4:(zaK (ev y)).size=34)(h5:zaM (zaK (ev y)).toList=true) :
  (execOp ev ⟨dst,.store 95 x y,t',pos,af,gd⟩).run Tryz.prog (w.alloc (.cells zs t))=.ok .skip (w.alloc (.cells (zaK (ev y)) t)) :=
 zcb ev w _ 33 (by kernel_rfl) zs t dst x y t' pos af gd h0 h1 h2 h3 h4 h5
theorem zpm(ev:Operand->Value)(w:World)(dst x y t' pos af gd)(h1:zbA (ev x)=true)(h2:Held w (za0 (ev x)) 34)(h3:zbC (ev y)=true)(h4:(zaK (ev y)).size=34)(h5:zaM (zaK (ev y)).toList=true) :
  (execOp ev ⟨dst,.store 95 x y,t',pos,af,gd⟩).run Tryz.prog w=.ok .skip (w.setRow (za0 (ev x)) (zaK (ev y))) :=
 zbN ev w _ 33 (by kernel_rfl) dst x y t' pos af gd h1 h2 h3 h4 h5
def fcells(x:En)(al gr:Value)(id:Int):Array Value:=fc (x.vals al gr) (.int .i64 id)
theorem zct(x:En)(al gr:Value)(id:Int):(fcells x al gr id).size=34:=by unfold fcells;rw[zlP,zaa]
theorem zbw(e:En)(al gr:Value)(id:Int)(h1:one al=true)(h2:one gr=true):zaM (fcells e al gr id).toList=true:=by
 unfold fcells fc;rw[Array.toList_push];have:=zau e al gr h1 h2;generalize (e.vals al gr).toList=l at this
 induction l with
 | nil=>rfl
 | cons v r ih =>
   rw[zaf,Bool.and_eq_true] at this;rw[List.cons_append,zaf,this.1,ih this.2];rfl
def FouR(B:Nat)(w':World)(g:Fu × Int × Int)(r:Ending):Prop :=
 ∃ (al gr:Value),r=.returned (.tuple #[.agg (fcells g.1.1 al gr g.2.1),.int .i64 g.2.2])∧IS w' al g.1.2.1∧GS w' gr g.1.2.2∧(∀ q,al.ownBlock=some q->B<=q)∧(∀ q,gr.ownBlock=some q->B<=q)
def FinR(w0 w w':World)(p:Nat)(sv:Value)(l:List Rw)(fl cd:Int)(g:(Fu × Int × Int) × Int)(r:Ending):Prop :=
 FouR w.heap.size w' g.1 r∧SHs w0 w' p sv l fl cd g.2∧w.grownBy w' (some p)
theorem FinR.put{w0 w W:World}{p:Nat}{sv:Value}{l:List Rw}{fl cd ca c:Int}{x:Fu}{al gr:Value}{id code:Int}(hS:SHs w0 w p sv l fl cd ca)(hH:Held W w.heap.size 34)(h3:SHs w0 W p sv l fl cd c)(hG:w.grownBy W (some p))(hI:IS W al x.2.1)(hg:GS W gr x.2.2)(h1:∀ q,al.ownBlock=some q->w.heap.size<q)(h2:∀ q,gr.ownBlock=some q->w.heap.size<q) :
  FinR w0 w (W.setRow w.heap.size (fcells x.1 al gr id)) p sv l fl cd ((x,id,code),c) (.returned (.tuple #[.agg (row (W.setRow w.heap.size (fcells x.1 al gr id)) w.heap.size),.int .i64 code])):=by
 have hb:Below w.heap.size W (W.setRow w.heap.size (fcells x.1 al gr id)):=below_setRow (Below.refl _ _) (Nat.le_refl _) _;have hk:∀ j,w.heap.size+1<=j->j<W.heap.size->(W.setRow w.heap.size (fcells x.1 al gr id)).heap[j]?=W.heap[j]?:=fun j h1 _=>zaX _ _ _ _ (by omega)
 exact⟨⟨al,gr,congrArg (fun z=>Ending.returned (.tuple #[.agg z,.int .i64 code])) (zaQ hH _),hI.keep (w.heap.size+1) (fun y hy=>h1 y hy) (by simp) hk,hg.keep (w.heap.size+1) (fun y hy=>h2 y hy) (by simp) hk,fun q hq=>Nat.le_of_lt (h1 q hq),fun q hq=>Nat.le_of_lt (h2 q hq)⟩,h3.belowB hb hS.pl (fun h b hb=>zbZ hS.r h b hb),zay hG hb⟩
def flit:Array Value:=(zlit 0 ⟨#[]⟩).push (.int .i64 0)
theorem zry:flit=fcells zF0.1 (.slice none 0 0) (.slice none 0 0) 0:=by unfold flit fcells fc;rw[zbE];rfl
theorem FinR.put0{w0 w W:World}{p:Nat}{sv:Value}{l:List Rw}{fl cd ca c:Int}{code:Int}(hS:SHs w0 w p sv l fl cd ca)(hH:Held W w.heap.size 34)(h3:SHs w0 W p sv l fl cd c)(hG:w.grownBy W (some p)) :
  FinR w0 w (W.setRow w.heap.size flit) p sv l fl cd ((zF0,0,code),c) (.returned (.tuple #[.agg (row (W.setRow w.heap.size flit) w.heap.size),.int .i64 code])):=by
 rw[zry];exact FinR.put (x:=zF0) hS hH h3 hG (IS.nil _) (GS.nil _) (fun _ h=>by cases h) (fun _ h=>by cases h)
theorem zc3{B:Nat}{W:World}{cs:Array Value}(hH:Held W B 34)(hc:cs.size=34):(row (W.setRow B cs) B).size=33+1:=(congrArg Array.size (zaQ hH cs)).trans hc
theorem zl8(w:World)(t:TypeId):Held (w.alloc (.cells flit t)) w.heap.size 34:=Held.new w flit t _ rfl (by decide)
theorem zb4{w w':World}{p b:Nat}{v:Value}(hg:w.grownBy w' (some p))(hne:b≠p)(h:w.cell? ⟨b,0,none⟩=some v):w'.cell? ⟨b,0,none⟩=some v :=
 (World.cell?_of_block (a:=⟨b,0,none⟩) (hg.block b (block_lt_of_cell h) (fun e=>hne (Option.some.inj e)))).trans h
attribute [local go_sem ↓] zaV zaW zaz zvH zv7 zpm ztx
attribute [local go_sem] zav zap zal zaI zaJ zae zaq zmk zai zaw zao zas zan zaa zlP zaj zaf zaA zax zak zag zar zaG zaC zaE
theorem zun(b1 b2 p:Nat)(sv:Value)(l:List Rw)(fl cd ca id:Int)(name:ByteArray)(w0 w:World)(hm:MaxL w0)(hT:Tab w0)(hS:SHs w0 w p sv l fl cd ca)(hc0:0<=ca)(hc1:ca<=80000)(hcd:cd≠0∧cd≠6∨fl<=0)(c1:w.cell? ⟨b1,0,none⟩=some (.iface 31 (.pointer (some ⟨p,0,none⟩))))(c2:w.cell? ⟨b2,0,none⟩=some (.string name))(n1:b1≠p)(_:b2≠p) :
  Calls Tryz.prog 38 #[.int .i64 id,.pointer (some ⟨b1,0,none⟩),.pointer (some ⟨b2,0,none⟩)] w fun r w'=>FinR w0 w w' p sv l fl cd (zkN l fl cd ca id name) r:=by
 have HS:=lh hS;have hpl:=hS.pl;have hb1:=block_lt_of_cell c1;have hb2:=block_lt_of_cell c2;have hne:(some p:Option Nat)≠some w.heap.size:=fun e=>by have:=Option.some.inj e;omega
 have HZ:=lh (zl8 w 95);have HF:=lh (fun (c:Int) nm W (h:SHs w0 W p sv l fl cd c) (h0:0<=c) (h1:c<=90000)=>zeX p sv l fl cd c id nm w0 W hm hT h h0 h1 hcd);have d1:(w.alloc (.cells flit 95)).cell? ⟨b1,0,none⟩=some (.iface 31 (.pointer (some ⟨p,0,none⟩))):=((zab _ _).cell (p:=⟨b1,0,none⟩) hb1).trans c1;have d2:(w.alloc (.cells flit 95)).cell? ⟨b2,0,none⟩=some (.string name):=((zab _ _).cell (p:=⟨b2,0,none⟩) hb2).trans c2;clear hS hm hT hcd;generalize hg:zkN l fl cd ca id name=g;unfold zkN at hg;have hget:=fun W (h:SHs w0 W p sv l fl cd ca)=>HF.out ca name W h hc0 (by omega)
 have hca:=zcY l fl cd ca id name;generalize zbF l fl cd ca id name=gg at hget hca hg;obtain⟨⟨x,code⟩,cb⟩:=gg;dsimp only at hca hg;have HGE:=lh hget;clear hget;by_cases h0:code=0
 rotate_left
 · rw[if_pos h0] at hg;subst hg;have t0:(code==0)=false:=by rw[beq_eq_false_iff_ne];exact h0
   have t1:(code != 0)=true:=by rw[bne_iff_ne];exact h0
   clear h0;go_enter Tryz.func38,Tryz.ntmps38
   go_wp2_with (go_at_call 39;(refine (HGE.out _ (HS.out.below (zab _ _))).mono ?_);rintro _ w3 ⟨⟨al,gr,rfl,hI,hGs,hf1,hf2⟩,hs3,hg3⟩;have hone:=zau x.1 al gr (zaP hI) (zaO hGs);have S3:=lh hs3;have G3:=lh hg3;have H3:=zci w3 (.cells (x.1.vals al gr) 40) _ _ (HZ.out.grown hg3 hne);have hone2:zaM (fc (x.1.vals al gr) (.int .i64 id)).toList=true:=zbw x.1 al gr id (zaP hI) (zaO hGs);have HI:=lh hI;have HGS:=lh hGs;have HF1:=lh hf1;have HF2:=lh hf2;have R3:=zai w3 (x.1.vals al gr) 40 (0,0);have N3:=zah R3 0 _ (zaC _ _ _);have N29:=zah R3 29 _ (zbb _ _ _);have z3:w.heap.size+1<=w3.heap.size:=(by have:=hg3.size;simpa using this);have e1:=((zab w3 (.cells (x.1.vals al gr) 40)).cell (p:=⟨b1,0,none⟩) (by show b1<w3.heap.size;omega)).trans (zb4 hg3 n1 d1);have H5:=zt5 w3 x.1 al gr 40;clear hI hGs hf1 hf2 hs3 hg3)
   refine bodyPost_ret (zaL (n:=33) rfl Tryz.underlying95 rfl (by kernel_rfl) _ _ w.heap.size rfl (zc3 H3 rfl)) rfl ?_
   exact FinR.put0 HS.out H3 (S3.out.below (zab _ _)) (zay (zat (zad _ (zab _ _)) G3.out) ((zab _ _).mono (by omega)))
 rw[if_neg (fun h=>h h0)] at hg;have t0:(code==0)=true:=by rw[h0];rfl
 have t1:(code != 0)=false:=by rw[h0];rfl
 by_cases hk:x.1.kind=2
 rotate_left
 · rw[if_pos hk] at hg;subst hg;have t2:(x.1.kind==2)=false:=by rw[beq_eq_false_iff_ne];exact hk
   clear hk;subst h0;go_enter Tryz.func38,Tryz.ntmps38
   go_wp2_with (go_at_call 39;(refine (HGE.out _ (HS.out.below (zab _ _))).mono ?_);rintro _ w3 ⟨⟨al,gr,rfl,hI,hGs,hf1,hf2⟩,hs3,hg3⟩;have hone:=zau x.1 al gr (zaP hI) (zaO hGs);have S3:=lh hs3;have G3:=lh hg3;have H3:=zci w3 (.cells (x.1.vals al gr) 40) _ _ (HZ.out.grown hg3 hne);have hone2:zaM (fc (x.1.vals al gr) (.int .i64 id)).toList=true:=zbw x.1 al gr id (zaP hI) (zaO hGs);have HI:=lh hI;have HGS:=lh hGs;have HF1:=lh hf1;have HF2:=lh hf2;have R3:=zai w3 (x.1.vals al gr) 40 (0,0);have N3:=zah R3 0 _ (zaC _ _ _);have N29:=zah R3 29 _ (zbb _ _ _);have z3:w.heap.size+1<=w3.heap.size:=(by have:=hg3.size;simpa using this);have e1:=((zab w3 (.cells (x.1.vals al gr) 40)).cell (p:=⟨b1,0,none⟩) (by show b1<w3.heap.size;omega)).trans (zb4 hg3 n1 d1);have H5:=zt5 w3 x.1 al gr 40;clear hI hGs hf1 hf2 hs3 hg3)
   refine bodyPost_ret (zaL (n:=33) rfl Tryz.underlying95 rfl (by kernel_rfl) _ _ w.heap.size rfl (zc3 H3 (zct x.1 al gr id))) rfl ?_
   exact FinR.put (x:=x) HS.out H3 (S3.out.below (zab _ _)) (zay (zat (zad _ (zab _ _)) G3.out) ((zab _ _).mono (by omega))) (HI.out.below (zab _ _)) (HGS.out.below (zab _ _)) (fun q hq=>by have:=HF1.out q hq;simp at this;omega) (fun q hq=>by have:=HF2.out q hq;simp at this;omega)
 rw[if_neg (fun h=>h hk)] at hg;have t2:(x.1.kind==2)=true:=by rw[hk];rfl
 clear hk;subst h0;have hget2:=fun W (h:SHs w0 W p sv l fl cd cb)=>HF.out cb x.1.target W h (by omega) (by omega)
 have hca2:=zcY l fl cd cb id x.1.target;generalize zbF l fl cd cb id x.1.target=gg at hget2 hca2 hg;obtain⟨⟨y,code2⟩,ce⟩:=gg;dsimp only at hca2 hg;have HGE2:=lh hget2;clear hget2;by_cases h2:code2=0
 rotate_left
 · rw[if_pos h2] at hg;subst hg;have t4:(code2==0)=false:=by rw[beq_eq_false_iff_ne];exact h2
   have t5:(code2 != 0)=true:=by rw[bne_iff_ne];exact h2
   clear h2;go_enter Tryz.func38,Tryz.ntmps38
   go_wp2_with (first|(go_at_call 39;have b6:=H5;clear b6;(refine (HGE2.out _ (S3.out.below (zab _ _))).mono ?_);rintro _ w4 ⟨⟨al2,gr2,rfl,hI2,hGs2,hf3,hf4⟩,hs4,hg4⟩;have hone3:=zau y.1 al2 gr2 (zaP hI2) (zaO hGs2);have S4:=lh hs4;have G4:=lh hg4;have hne2:(some p:Option Nat)≠some w3.heap.size:=(fun e=>by have:=Option.some.inj e;omega);have K5:=H5.grown hg4 hne2;have K4:=(H3.grown hg4 hne).set (y.1.vals al2 gr2) (g:=w.heap.size) (g':=w3.heap.size) (fun e=>by omega);have RB:=zsP w4 (y.1.vals al2 gr2) w3.heap.size K5;have NB:=zah RB 0 _ (zaC _ _ _);have hone4:zaM (fc (y.1.vals al2 gr2) (.int .i64 id)).toList=true:=zbw y.1 al2 gr2 id (zaP hI2) (zaO hGs2);have z4:w3.heap.size+1<=w4.heap.size:=(by have:=hg4.size;simpa using this);have HI2:=lh hI2;have HGS2:=lh hGs2;have HF3:=lh hf3;have HF4:=lh hf4;clear hI2 hGs2 hf3 hf4 hs4 hg4)|(go_at_call 39;(refine (HGE.out _ (HS.out.below (zab _ _))).mono ?_);rintro _ w3 ⟨⟨al,gr,rfl,hI,hGs,hf1,hf2⟩,hs3,hg3⟩;have hone:=zau x.1 al gr (zaP hI) (zaO hGs);have S3:=lh hs3;have G3:=lh hg3;have H3:=zci w3 (.cells (x.1.vals al gr) 40) _ _ (HZ.out.grown hg3 hne);have hone2:zaM (fc (x.1.vals al gr) (.int .i64 id)).toList=true:=zbw x.1 al gr id (zaP hI) (zaO hGs);have HI:=lh hI;have HGS:=lh hGs;have HF1:=lh hf1;have HF2:=lh hf2;have R3:=zai w3 (x.1.vals al gr) 40 (0,0);have N3:=zah R3 0 _ (zaC _ _ _);have N29:=zah R3 29 _ (zbb _ _ _);have z3:w.heap.size+1<=w3.heap.size:=(by have:=hg3.size;simpa using this);have e1:=((zab w3 (.cells (x.1.vals al gr) 40)).cell (p:=⟨b1,0,none⟩) (by show b1<w3.heap.size;omega)).trans (zb4 hg3 n1 d1);have H5:=zt5 w3 x.1 al gr 40;clear hI hGs hf1 hf2 hs3 hg3))
   refine bodyPost_ret (zaL (n:=33) rfl Tryz.underlying95 rfl (by kernel_rfl) _ _ w.heap.size rfl (zc3 K4 rfl)) rfl ?_
   have hb4:Below w.heap.size w4 (w4.setRow w3.heap.size (y.1.vals al2 gr2)):=below_setRow (Below.refl _ _) (by omega) _;have hS5:=S4.out.belowB hb4 hpl (fun h b hb=>zbZ HS.out.r h b hb);have hG5:=zay (zat (zay (zat (zad _ (zab _ _)) G3.out) ((zab _ _).mono (by omega))) G4.out) hb4;exact FinR.put0 HS.out K4 hS5 hG5
 rw[if_neg (fun h=>h h2)] at hg;subst h2;by_cases hk:y.1.kind=2
 · rw[if_pos hk] at hg;subst hg;have t6:(y.1.kind==2)=true:=by rw[hk];rfl
   clear hk;go_enter Tryz.func38,Tryz.ntmps38
   go_wp2_with (first|(go_at_call 39;have b6:=H5;clear b6;(refine (HGE2.out _ (S3.out.below (zab _ _))).mono ?_);rintro _ w4 ⟨⟨al2,gr2,rfl,hI2,hGs2,hf3,hf4⟩,hs4,hg4⟩;have hone3:=zau y.1 al2 gr2 (zaP hI2) (zaO hGs2);have S4:=lh hs4;have G4:=lh hg4;have hne2:(some p:Option Nat)≠some w3.heap.size:=(fun e=>by have:=Option.some.inj e;omega);have K5:=H5.grown hg4 hne2;have K4:=(H3.grown hg4 hne).set (y.1.vals al2 gr2) (g:=w.heap.size) (g':=w3.heap.size) (fun e=>by omega);have RB:=zsP w4 (y.1.vals al2 gr2) w3.heap.size K5;have NB:=zah RB 0 _ (zaC _ _ _);have hone4:zaM (fc (y.1.vals al2 gr2) (.int .i64 id)).toList=true:=zbw y.1 al2 gr2 id (zaP hI2) (zaO hGs2);have z4:w3.heap.size+1<=w4.heap.size:=(by have:=hg4.size;simpa using this);have HI2:=lh hI2;have HGS2:=lh hGs2;have HF3:=lh hf3;have HF4:=lh hf4;clear hI2 hGs2 hf3 hf4 hs4 hg4)|(go_at_call 39;(refine (HGE.out _ (HS.out.below (zab _ _))).mono ?_);rintro _ w3 ⟨⟨al,gr,rfl,hI,hGs,hf1,hf2⟩,hs3,hg3⟩;have hone:=zau x.1 al gr (zaP hI) (zaO hGs);have S3:=lh hs3;have G3:=lh hg3;have H3:=zci w3 (.cells (x.1.vals al gr) 40) _ _ (HZ.out.grown hg3 hne);have hone2:zaM (fc (x.1.vals al gr) (.int .i64 id)).toList=true:=zbw x.1 al gr id (zaP hI) (zaO hGs);have HI:=lh hI;have HGS:=lh hGs;have HF1:=lh hf1;have HF2:=lh hf2;have R3:=zai w3 (x.1.vals al gr) 40 (0,0);have N3:=zah R3 0 _ (zaC _ _ _);have N29:=zah R3 29 _ (zbb _ _ _);have z3:w.heap.size+1<=w3.heap.size:=(by have:=hg3.size;simpa using this);have e1:=((zab w3 (.cells (x.1.vals al gr) 40)).cell (p:=⟨b1,0,none⟩) (by show b1<w3.heap.size;omega)).trans (zb4 hg3 n1 d1);have H5:=zt5 w3 x.1 al gr 40;clear hI hGs hf1 hf2 hs3 hg3))
   refine bodyPost_ret (zaL (n:=33) rfl Tryz.underlying95 rfl (by kernel_rfl) _ _ w.heap.size rfl (zc3 K4 rfl)) rfl ?_
   have hb4:Below w.heap.size w4 (w4.setRow w3.heap.size (y.1.vals al2 gr2)):=below_setRow (Below.refl _ _) (by omega) _;have hS5:=S4.out.belowB hb4 hpl (fun h b hb=>zbZ HS.out.r h b hb);have hG5:=zay (zat (zay (zat (zad _ (zab _ _)) G3.out) ((zab _ _).mono (by omega))) G4.out) hb4;exact FinR.put0 HS.out K4 hS5 hG5
 · rw[if_neg hk] at hg;subst hg;have t6:(y.1.kind==2)=false:=by rw[beq_eq_false_iff_ne];exact hk
   clear hk;go_enter Tryz.func38,Tryz.ntmps38
   go_wp2_with (first|(go_at_call 39;have b6:=H5;clear b6;(refine (HGE2.out _ (S3.out.below (zab _ _))).mono ?_);rintro _ w4 ⟨⟨al2,gr2,rfl,hI2,hGs2,hf3,hf4⟩,hs4,hg4⟩;have hone3:=zau y.1 al2 gr2 (zaP hI2) (zaO hGs2);have S4:=lh hs4;have G4:=lh hg4;have hne2:(some p:Option Nat)≠some w3.heap.size:=(fun e=>by have:=Option.some.inj e;omega);have K5:=H5.grown hg4 hne2;have K4:=(H3.grown hg4 hne).set (y.1.vals al2 gr2) (g:=w.heap.size) (g':=w3.heap.size) (fun e=>by omega);have RB:=zsP w4 (y.1.vals al2 gr2) w3.heap.size K5;have NB:=zah RB 0 _ (zaC _ _ _);have hone4:zaM (fc (y.1.vals al2 gr2) (.int .i64 id)).toList=true:=zbw y.1 al2 gr2 id (zaP hI2) (zaO hGs2);have z4:w3.heap.size+1<=w4.heap.size:=(by have:=hg4.size;simpa using this);have HI2:=lh hI2;have HGS2:=lh hGs2;have HF3:=lh hf3;have HF4:=lh hf4;clear hI2 hGs2 hf3 hf4 hs4 hg4)|(go_at_call 39;(refine (HGE.out _ (HS.out.below (zab _ _))).mono ?_);rintro _ w3 ⟨⟨al,gr,rfl,hI,hGs,hf1,hf2⟩,hs3,hg3⟩;have hone:=zau x.1 al gr (zaP hI) (zaO hGs);have S3:=lh hs3;have G3:=lh hg3;have H3:=zci w3 (.cells (x.1.vals al gr) 40) _ _ (HZ.out.grown hg3 hne);have hone2:zaM (fc (x.1.vals al gr) (.int .i64 id)).toList=true:=zbw x.1 al gr id (zaP hI) (zaO hGs);have HI:=lh hI;have HGS:=lh hGs;have HF1:=lh hf1;have HF2:=lh hf2;have R3:=zai w3 (x.1.vals al gr) 40 (0,0);have N3:=zah R3 0 _ (zaC _ _ _);have N29:=zah R3 29 _ (zbb _ _ _);have z3:w.heap.size+1<=w3.heap.size:=(by have:=hg3.size;simpa using this);have e1:=((zab w3 (.cells (x.1.vals al gr) 40)).cell (p:=⟨b1,0,none⟩) (by show b1<w3.heap.size;omega)).trans (zb4 hg3 n1 d1);have H5:=zt5 w3 x.1 al gr 40;clear hI hGs hf1 hf2 hs3 hg3))
   refine bodyPost_ret (zaL (n:=33) rfl Tryz.underlying95 rfl (by kernel_rfl) _ _ w.heap.size rfl (zc3 K4 (zct y.1 al2 gr2 id))) rfl ?_
   have hb4:Below w.heap.size w4 (w4.setRow w3.heap.size (y.1.vals al2 gr2)):=below_setRow (Below.refl _ _) (by omega) _;have hS5:=S4.out.belowB hb4 hpl (fun h b hb=>zbZ HS.out.r h b hb);have hG5:=zay (zat (zay (zat (zad _ (zab _ _)) G3.out) ((zab _ _).mono (by omega))) G4.out) hb4;have hk4:∀ j,w3.heap.size+1<=j->j<w4.heap.size->(w4.setRow w3.heap.size (y.1.vals al2 gr2)).heap[j]?=w4.heap[j]?:=fun j h1 _=>zaX _ _ _ _ (by omega)
   exact FinR.put (x:=y) HS.out K4 hS5 hG5 (HI2.out.keep (w3.heap.size+1) (fun q hq=>by have:=HF3.out q hq;simpa using this) (by simp) hk4) (HGS2.out.keep (w3.heap.size+1) (fun q hq=>by have:=HF4.out q hq;simpa using this) (by simp) hk4) (fun q hq=>by have:=HF3.out q hq;simp at this;omega) (fun q hq=>by have:=HF4.out q hq;simp at this;omega)
theorem zvL(b1 b2 p:Nat)(sv:Value)(l:List Rw)(fl cd ca:Int)(name:ByteArray)(w0 w:World)(hm:MaxL w0)(hT:Tab w0)(hS:SHs w0 w p sv l fl cd ca)(hc0:0<=ca)(hc1:ca<=70000)(hcd:cd≠0∧cd≠6∨fl<=0)(c1:w.cell? ⟨b1,0,none⟩=some (.iface 31 (.pointer (some ⟨p,0,none⟩))))(c2:w.cell? ⟨b2,0,none⟩=some (.string name))(n1:b1≠p)(n2:b2≠p) :
  Calls Tryz.prog 37 #[.iface 31 (.pointer (some ⟨p,0,none⟩)),.string name,.func (.func 38) #[] #[.pointer (some ⟨b1,0,none⟩),.pointer (some ⟨b2,0,none⟩)]] w fun r w'=>FinR w0 w w' p sv l fl cd (zeN l fl cd ca name) r:=by
 have HS:=lh hS;have hpl:=hS.pl;have hb1:=block_lt_of_cell c1;have hb2:=block_lt_of_cell c2;have hne:(some p:Option Nat)≠some w.heap.size:=fun e=>by have:=Option.some.inj e;omega
 have HZ:=lh (zl8 w 95);have HW:=lh (fun W (h:SHs w0 W p sv l fl cd ca)=>ze6 p sv l fl cd ca name w0 W hm hT h hc0 (by omega) hcd);have HF:=lh (fun (c id:Int) W (h:SHs w0 W p sv l fl cd c) (h0:0<=c) (h1:c<=80000) d1 d2=>zun b1 b2 p sv l fl cd c id name w0 W hm hT h h0 h1 hcd d1 d2 n1 n2);have d1:(w.alloc (.cells flit 95)).cell? ⟨b1,0,none⟩=some (.iface 31 (.pointer (some ⟨p,0,none⟩))):=((zab _ _).cell (p:=⟨b1,0,none⟩) hb1).trans c1;have d2:(w.alloc (.cells flit 95)).cell? ⟨b2,0,none⟩=some (.string name):=((zab _ _).cell (p:=⟨b2,0,none⟩) hb2).trans c2;clear hS hm hT hcd c1 c2;generalize hg:zeN l fl cd ca name=g;unfold zeN at hg;have hca:=zim l fl cd ca name;generalize zb0 l fl cd ca name=gg at hca hg HW;obtain⟨⟨id,c⟩,cb⟩:=gg;dsimp only at hca hg HW;by_cases h0:c=0
 rotate_left
 · rw[if_pos h0] at hg;subst hg;have t1:(c != 0)=true:=by rw[bne_iff_ne];exact h0
   clear h0;go_enter Tryz.func37,Tryz.ntmps37
   go_wp2_with (go_at_call 13;(refine (HW.out _ (HS.out.below (zab _ _))).mono ?_);rintro _ w3 ⟨rfl,hs3,hg3⟩;have S3:=lh hs3;have G3:=lh hg3;have H3:=fun ob=>zci w3 ob _ _ (HZ.out.grown hg3 hne);have z3:w.heap.size+1<=w3.heap.size:=(by have:=hg3.size;simpa using this);have R3:=zai w3 flit 95 (0,0);clear hs3 hg3)
   refine bodyPost_ret (zaL (n:=33) rfl Tryz.underlying95 rfl (by kernel_rfl) _ _ w.heap.size rfl (zc3 (cs:=flit) (H3 _) rfl)) rfl ?_
   exact FinR.put0 HS.out (H3 _) (S3.out.below (zab _ _)) (zay (zat (zad _ (zab _ _)) G3.out) ((zab _ _).mono (by omega)))
 rw[if_neg (fun h=>h h0)] at hg;subst h0 hg;have hfi:=fun W (h:SHs w0 W p sv l fl cd cb) d1 d2=>HF.out cb id W h (by omega) (by omega) d1 d2
 generalize zkN l fl cd cb id name=g at hfi ⊢;have HFI:=lh hfi;clear hfi;go_enter Tryz.func37,Tryz.ntmps37
 go_wp2_with (first
  | (go_at_call 13;(refine (HW.out _ (HS.out.below (zab _ _))).mono ?_);rintro _ w3 ⟨rfl,hs3,hg3⟩;have S3:=lh hs3;have G3:=lh hg3;have H3:=HZ.out.grown hg3 hne;have z3:w.heap.size+1<=w3.heap.size:=(by have:=hg3.size;simpa using this);have e1:=zb4 hg3 n1 d1;have e2:=zb4 hg3 n2 d2;clear hs3 hg3)
  | (go_at_call 38;(refine (HFI.out _ S3.out e1 e2).mono ?_);rintro _ w4 ⟨⟨al,gr,rfl,hI,hGs,hf1,hf2⟩,hs4,hg4⟩;have hone:=zbw g.1.1.1 al gr g.1.2.1 (zaP hI) (zaO hGs);have hsz:=zct g.1.1.1 al gr g.1.2.1;have S4:=lh hs4;have G4:=lh hg4;have H4:=H3.grown hg4 hne;have HI:=lh hI;have HGS:=lh hGs;have HF1:=lh hf1;have HF2:=lh hf2;clear hI hGs hf1 hf2 hs4 hg4))
 refine bodyPost_ret (zaL (n:=33) rfl Tryz.underlying95 rfl (by kernel_rfl) _ _ w.heap.size rfl (zc3 H4 (zct g.1.1.1 al gr g.1.2.1))) rfl ?_
 exact FinR.put (x:=g.1.1) HS.out H4 S4.out (zat (zat (zad _ (zab _ _)) G3.out) G4.out) HI.out HGS.out (fun q hq=>by have:=HF1.out q hq;omega) (fun q hq=>by have:=HF2.out q hq;omega)
theorem mid34(w:World)(e:En)(al gr:Value)(id:Int)(b:Nat)(h:row w b=fcells e al gr id):mid w b 0=e.vals al gr∧w.cell? ⟨b,33,none⟩=some (.int .i64 id):=by
 refine⟨?_,zah h 33 _ ?_⟩
 · unfold mid;rw[h];unfold fcells fc;have hz:=zaa e al gr;generalize e.vals al gr=cs at hz;apply Array.ext'
   simp [hz]
 · unfold fcells fc;have hz:=zaa e al gr;generalize e.vals al gr=cs at hz;rw[<-hz,Array.getElem?_push_size]
attribute [local go_sem ↓] zcu
theorem zmG(p:Nat)(sv:Value)(l:List Rw)(fl cd ca:Int)(name:ByteArray)(w0 w:World)(hm:MaxL w0)(hT:Tab w0)(hS:SHs w0 w p sv l fl cd ca)(hc0:0<=ca)(hc1:ca<=60000)(hcd:cd≠0∧cd≠6∨fl<=0) :
  Calls Tryz.prog 14 #[.iface 31 (.pointer (some ⟨p,0,none⟩)),.string name] w fun r w'=>En3 w.heap.size w' (zeN l fl cd ca name).1 r∧SHs w0 w' p sv l fl cd (zeN l fl cd ca name).2∧w.grownBy w' (some p):=by
 have HS:=lh hS;have hpl:=hS.pl;have n1:w.heap.size≠p:=by omega
 have n2:w.heap.size+1≠p:=by omega
 have HI_:=lh (fun W (h:SHs w0 W p sv l fl cd ca) c1 c2=>zvL w.heap.size (w.heap.size+1) p sv l fl cd ca name w0 W hm hT h hc0 (by omega) hcd c1 c2 n1 n2);clear hS hm hT hcd;generalize zeN l fl cd ca name=g at HI_ ⊢;go_enter Tryz.func14,Tryz.ntmps14
 go_upto_region 1 with fail
 have B1:Below w.heap.size w (((w.alloc (.cells #[.iface 31 (.pointer (some ⟨p,0,none⟩))] 61)).alloc (.cells #[.string name] 9)).alloc (.cells (zlit 0 ⟨#[]⟩) 40)):=by exact zbo
 have c1:(((w.alloc (.cells #[.iface 31 (.pointer (some ⟨p,0,none⟩))] 61)).alloc (.cells #[.string name] 9)).alloc (.cells (zlit 0 ⟨#[]⟩) 40)).cell? ⟨w.heap.size,0,none⟩=some (.iface 31 (.pointer (some ⟨p,0,none⟩))):=by
  rw[World.cell?_of_block (a:=⟨w.heap.size,0,none⟩) ((heap_alloc_old ((w.alloc _).alloc _) _ (by simp;omega)).trans (heap_alloc_old (w.alloc _) _ (by simp))),cell_of_row _ w.heap.size 0 _ 61 (0,0) (heap_alloc_new w _)];rfl
 have c2:(((w.alloc (.cells #[.iface 31 (.pointer (some ⟨p,0,none⟩))] 61)).alloc (.cells #[.string name] 9)).alloc (.cells (zlit 0 ⟨#[]⟩) 40)).cell? ⟨w.heap.size+1,0,none⟩=some (.string name):=by
  have e:=cell_of_row _ _ 0 _ 9 (0,0) (heap_alloc_new (w.alloc (.cells #[.iface 31 (.pointer (some ⟨p,0,none⟩))] 61)) (.cells #[.string name] 9));rw[World.size_alloc] at e;rw[World.cell?_of_block (a:=⟨w.heap.size+1,0,none⟩) (heap_alloc_old ((w.alloc _).alloc _) _ (by simp)),e];rfl
 have H1:Held (((w.alloc (.cells #[.iface 31 (.pointer (some ⟨p,0,none⟩))] 61)).alloc (.cells #[.string name] 9)).alloc (.cells (zlit 0 ⟨#[]⟩) 40)) (w.heap.size+1+1) 33:=by
  have e:=zmc ((w.alloc (.cells #[.iface 31 (.pointer (some ⟨p,0,none⟩))] 61)).alloc (.cells #[.string name] 9)) 40;rw[World.size_alloc,World.size_alloc] at e;exact e
 have sz:(((w.alloc (.cells #[.iface 31 (.pointer (some ⟨p,0,none⟩))] 61)).alloc (.cells #[.string name] 9)).alloc (.cells (zlit 0 ⟨#[]⟩) 40)).heap.size=w.heap.size+1+1+1:=by simp
 unfold zlit at B1 c1 c2 H1 sz;generalize World.alloc (World.alloc (World.alloc w _) _) _=W1 at B1 c1 c2 H1 sz ⊢;have hne:(some p:Option Nat)≠some (w.heap.size+1+1):=fun e=>by have:=Option.some.inj e;omega
 go_upto_region 2 with (go_at_call 37;(refine (HI_.out _ (HS.out.below B1) c1 c2).mono ?_);rintro _ w3 ⟨⟨al,gr,rfl,hI,hGs,hf1,hf2⟩,hs3,hg3⟩;have hone:=zbw g.1.1.1 al gr g.1.2.1 (zaP hI) (zaO hGs);have hsz:=zct g.1.1.1 al gr g.1.2.1;have S3:=lh hs3;have G3:=lh hg3;have H3:=zci w3 (.cells (fcells g.1.1.1 al gr g.1.2.1) 95) _ _ (H1.grown hg3 hne);have HI:=lh hI;have HGS:=lh hGs;have HF1:=lh hf1;have HF2:=lh hf2;have hv1:=zau g.1.1.1 al gr (zaP hI) (zaO hGs);have z3:W1.heap.size<=w3.heap.size:=hg3.size;clear hI hGs hf1 hf2 hs3 hg3)
 obtain⟨M0,M1⟩:=mid34 (w3.alloc (.cells (fcells g.1.1.1 al gr g.1.2.1) 95)) g.1.1.1 al gr g.1.2.1 w3.heap.size (zai w3 _ _ _);have hsz0:(mid (w3.alloc (.cells (fcells g.1.1.1 al gr g.1.2.1) 95)) w3.heap.size 0).size=33:=by rw[M0];exact zaa _ _ _
 refine wp_region_held_drew (S:=fun w'=>(mid w' w3.heap.size 0).size=33∧mid w' w3.heap.size 0=g.1.1.1.vals al gr∧w'.cell? ⟨w3.heap.size,33,none⟩=some (.int .i64 g.1.2.1)∧Held w' (w.heap.size+1+1) 33) (by kernel_rfl) ?_ (fun hHeld=>?_)
 · exact⟨hsz0,M0,M1,H3⟩
 (refine rgy (i:=0) (some 16) ?_;(try simp only[Act.put,pz]))
 refine zqn (i:=1) (some 17) (v:=.agg (g.1.1.1.vals al gr)) rfl rfl (by kernel_rfl) (by kernel_rfl) (by kernel_rfl) (fun _ _ _ h=>h) (by kernel_rfl) (fun w' hS=>?_) (by assumption) ?_
 · refine (zcu _ w' _ _ _ _ _ _ (by rfl) (by exact hS.1)).trans ?_
   show Result.ok (Next.value (.agg (mid w' w3.heap.size 0))) w'=_
   rw[hS.2.1]
 try simp only[Act.put,List.setIfInBounds_toArray,List.set_cons_zero,List.set_cons_succ]
 (refine rgy (i:=2) (some 18) ?_;(try simp only[Act.put,pz]))
 (refine rgy (i:=3) (some 19) ?_;(try simp only[Act.put,pz]))
 (refine rgy (i:=4) (some 20) ?_;(try simp only[Act.put,pz]))
 have hH:Held (w3.alloc (.cells (fcells g.1.1.1 al gr g.1.2.1) 95)).drew (w.heap.size+1+1) 33:=H3;obtain⟨W2,hW2⟩:∃ W2,(w3.alloc (.cells (fcells g.1.1.1 al gr g.1.2.1) 95)).drew=W2:=⟨_,rfl⟩;rw[hW2] at hH hHeld ⊢;have B2:Below w3.heap.size w3 W2:=by rw[<-hW2];exact Below.drew (zab _ _)
 have z2:W2.heap.size=w3.heap.size+1:=by rw[<-hW2];simp
 clear hW2
 have hSn:(mid (W2.setRow (w.heap.size+1+1) (g.1.1.1.vals al gr)) w3.heap.size 0).size=33∧mid (W2.setRow (w.heap.size+1+1) (g.1.1.1.vals al gr)) w3.heap.size 0=g.1.1.1.vals al gr∧(W2.setRow (w.heap.size+1+1) (g.1.1.1.vals al gr)).cell? ⟨w3.heap.size,33,none⟩=some (.int .i64 g.1.2.1)∧Held (W2.setRow (w.heap.size+1+1) (g.1.1.1.vals al gr)) (w.heap.size+1+1) 33:=by
  have e:mid (W2.setRow (w.heap.size+1+1) (g.1.1.1.vals al gr)) w3.heap.size 0=mid W2 w3.heap.size 0:=by
   unfold mid row;rw[zaX _ _ _ _ (by omega)]
  exact⟨by rw[e];exact hHeld.1,e.trans hHeld.2.1,(World.cell?_of_block (a:=⟨w3.heap.size,33,none⟩) (zaX _ _ _ _ (by show w3.heap.size≠_;omega))).trans hHeld.2.2.1,hH.set _ (fun _=>zaa _ _ _)⟩
 refine rg_t (i:=5) none (W2.setRow (w.heap.size+1+1) (g.1.1.1.vals al gr)) rfl rfl (by kernel_rfl) (by kernel_rfl) (zaz _ _ _ _ _ _ _ _ _ (by rfl) (by exact hH) (by rfl) (zaa _ _ _) hv1) hSn ?_
 try simp only[Act.put]
 (refine rgy (i:=6) (some 5) ?_;(try simp only[Act.put,pz]))
 (refine rgy (i:=7) (some 6) ?_;(try simp only[Act.put,pz]))
 refine wpAnyH_done (by kernel_rfl) ?_ _
 clear hHeld hSn M0 M1 hsz0 H3;go_wp2_with fail
 refine bodyPost_ret (zh9 (n:=32) rfl Tryz.underlying40 rfl (by kernel_rfl) _ _ (w.heap.size+1+1) rfl (zbu hH (zaa _ _ _))) rfl ?_
 have hb:Below w.heap.size W2 (W2.setRow (w.heap.size+1+1) (g.1.1.1.vals al gr)):=below_setRow (Below.refl _ _) (by omega) _;have hG:w.grownBy W2 (some p):=zay (zat (zad _ B1) G3.out) (B2.mono (by omega));exact⟨(En3.put (x:=g.1.1) hH (HI.out.below B2) (HGS.out.below B2) (fun q hq=>by have:=HF1.out q hq;omega) (fun q hq=>by have:=HF2.out q hq;omega)).le (by omega),(S3.out.below B2).belowB hb hpl (fun h b hb=>zbZ HS.out.r h b hb),zay hG hb⟩
end
end Go.Proofs.YtefcmdmfgdcpmaaGreatDoor
