/- Contracts of package master: Find. -/
import Derived.Test.YtkafnmbldpofdaaGreatDoorChA
import Derived.Test.YtkafnmbldpofdaaGreatDoorRh
import Derived.Test.YtkafnmbldpofdaaGreatDoorRuC
import Derived.Test.YtkafnmbldpofdaaGreatDoorDsW
import Derived.Test.YtkafnmbldpofdaaGreatDoorDsR
import Derived.Test.YtkafnmbldpofdaaGreatDoorAcA
import Derived.Test.YtkafnmbldpofdaaGreatDoorGeA
namespace Go.Proofs.YtkafnmbldpofdaaGreatDoor
open Go.RowKit
set_option maxRecDepth 8000
set_option maxHeartbeats 8000000
section
def zF0:Fu:=(En.zero,[],[])
def zcv(id:Int)(key:ByteArray):List Rw->Option ByteArray
 | []=>none
 | x::l=>if x.1=id∧x.2.1=key then some x.2.2 else zcv id key l
def zbb(key s:ByteArray):Fu × Int:=match zc6 (Ds.bl s) with
 | none=>(zF0,11)
 | some y=>if zhf y=Ds.bl key then (y,0) else (zF0,11)
def zbs(l:List Rw)(fl cd ca id kind:Int)(name:ByteArray):(Fu × Int) × Int :=
 if zbl kind name=⟨#[]⟩ then ((zF0,1),ca) else if ca+1=fl then ((zF0,cd),ca+1) else match zcv id (zbl kind name) l with
 | none=>((zF0,6),ca+1)
 | some s=>(zbb (zbl kind name) s,ca+1)
def zdU(l:List Rw)(fl cd id:Int)(name:ByteArray):List Int->Int->(Fu × Int) × Int
 | [],ca=>((zF0,6),ca)
 | k::ks,ca=>if (zbs l fl cd ca id k name).1.2=6 then zdU l fl cd id name ks (zbs l fl cd ca id k name).2 else zbs l fl cd ca id k name
def zbL(l:List Rw)(fl cd ca id:Int)(name:ByteArray):(Fu × Int) × Int :=
 if Ds.name (Ds.bl name)=false then ((zF0,1),ca) else zdU l fl cd id name [0,1,2] ca
def zcV(l:List Rw)(id kind:Int)(name:ByteArray):Fu × Int:=(zbs l 0 0 0 id kind name).1
def zcg(l:List Rw)(id:Int)(name:ByteArray):List Int->Fu × Int
 | []=>(zF0,6)
 | k::ks=>if (zcV l id k name).2=6 then zcg l id name ks else zcV l id k name
def zb5(l:List Rw)(id:Int)(name:ByteArray):Fu × Int :=
 if Ds.name (Ds.bl name)=false then (zF0,1) else zcg l id name [0,1,2]
theorem zbU(l:List Rw)(fl cd ca id kind:Int)(name:ByteArray):ca<=(zbs l fl cd ca id kind name).2∧(zbs l fl cd ca id kind name).2<=ca+1:=by
 unfold zbs
 split
 · exact⟨Int.le_refl _,by show ca<=ca+1;omega⟩
 split
 · exact⟨by show ca<=ca+1;omega,Int.le_refl _⟩
 split
 · exact⟨by show ca<=ca+1;omega,Int.le_refl _⟩
 · exact⟨by show ca<=ca+1;omega,Int.le_refl _⟩
theorem zgA(l:List Rw)(fl cd ca id kind:Int)(name:ByteArray)(hf:fl<=0)(h0:0<=ca):(zbs l fl cd ca id kind name).1=zcV l id kind name:=by
 unfold zcV zbs
 split
 · rfl
 rw[if_neg (by omega),if_neg (by omega)]
 split <;> rfl
theorem ziQ(l:List Rw)(fl cd id:Int)(name:ByteArray)(hf:fl<=0):∀ (ks:List Int) (ca:Int),0<=ca->(zdU l fl cd id name ks ca).1=zcg l id name ks
 | [],_,_=>rfl
 | k::ks,ca,h0=>by
   have e1:=zgA l fl cd ca id k name hf h0
   unfold zdU zcg
   rw[e1]
   split
   · have:=zbU l fl cd ca id k name
     exact ziQ l fl cd id name hf ks _ (by omega)
   · exact e1
theorem zea(l:List Rw)(fl cd ca id:Int)(name:ByteArray)(hf:fl<=0)(h0:0<=ca):(zbL l fl cd ca id name).1=zb5 l id name:=by
 unfold zb5 zbL
 split
 · rfl
 · exact ziQ l fl cd id name hf _ _ h0
theorem zi1(l:List Rw)(fl cd id:Int)(name:ByteArray):∀ (ks:List Int) (ca:Int),ca<=(zdU l fl cd id name ks ca).2∧(zdU l fl cd id name ks ca).2<=ca+ks.length
 | [],_=>⟨Int.le_refl _,by simp [zdU]⟩
 | k::ks,ca=>by
   have h:=zbU l fl cd ca id k name
   unfold zdU
   split
   · have:=zi1 l fl cd id name ks (zbs l fl cd ca id k name).2
     simp only[List.length_cons]
     omega
   · simp only[List.length_cons]
     omega
theorem zeh(l:List Rw)(fl cd ca id:Int)(name:ByteArray):ca<=(zbL l fl cd ca id name).2∧(zbL l fl cd ca id name).2<=ca+3:=by
 unfold zbL
 split
 · exact⟨Int.le_refl _,by show ca<=ca+3;omega⟩
 · exact zi1 l fl cd id name [0,1,2] ca
theorem zd1{id:Int}{key:ByteArray}{l:List Rw}{k:Nat}(hk:k<l.length)(h:¬ (l[k].1=id∧l[k].2.1=key)):zcv id key (l.drop (k+1))=zcv id key (l.drop k):=by
 rw[List.drop_eq_getElem_cons hk]
 exact (if_neg h).symm
theorem ziK{id:Int}{key:ByteArray}{l:List Rw}{k:Nat}(hk:k<l.length)(h:l[k].1=id∧l[k].2.1=key):zcv id key (l.drop k)=some l[k].2.2:=by
 rw[List.drop_eq_getElem_cons hk]
 exact if_pos h
def gtV(fl cd ca:Int)(o:Option ByteArray):Value:=if ca+1=fl then .tuple #[.string ⟨#[]⟩,.int .i64 cd] else match o with|none=>.tuple #[.string ⟨#[]⟩,.int .i64 6]|some x=>.tuple #[.string x,.int .i64 0]
theorem zsn(p:Nat)(sv:Value)(fl cd ca id:Int)(key:ByteArray)(l:List Rw)(w:World)(h:SHf w p sv fl cd ca)(hl:RwS w sv l)(hne:∀ b,sv.ownBlock=some b->b≠p)(h0:0<=ca)(h1:ca<1000000000) :
  Calls Tryz.prog 362 #[.pointer (some ⟨p,0,none⟩),.int .i64 id,.string key] w fun r w'=>r=.returned (gtV fl cd ca (zcv id key l))∧∃ q,w'=(w.setCell ⟨p,3,none⟩ (.int .i64 (ca+1))).drewN q:=by
 have hfl:=zgW p sv fl cd ca w h h0 h1
 obtain⟨hr,-⟩:=h
 have c2:=zaa hr 2 _ rfl
 have c0:=zaa hr 0 _ rfl
 have d2:(w.setCell ⟨p,3,none⟩ (.int .i64 (ca+1))).cell? ⟨p,2,none⟩=some (.int .i64 cd):=by
  rw[World.cell?_setCell_other _ _ _ _ (by intro h;cases h)];exact c2
 have d0:(w.setCell ⟨p,3,none⟩ (.int .i64 (ca+1))).cell? ⟨p,0,none⟩=some sv:=by
  rw[World.cell?_setCell_other _ _ _ _ (by intro h;cases h)];exact c0
 have hl2:RwS (w.setCell ⟨p,3,none⟩ (.int .i64 (ca+1))) sv l:=hl.keep (by simp) fun b hb hlt=>(zaH w ⟨p,3,none⟩ _).block b hlt (fun e=>hne b hb (Option.some.inj e))
 generalize w.setCell ⟨p,3,none⟩ (.int .i64 (ca+1))=W at hfl d2 d0 hl2 ⊢
 clear hr c2 c0 hl hne
 unfold gtV
 by_cases hf:ca+1=fl
 · rw[decide_eq_true hf] at hfl
   rw[if_pos hf]
   have HF:=lh hfl
   clear hfl hf hl2
   go_enter Tryz.func362,Tryz.ntmps362
   go_wp2_with (go_at_call 364;(with_reducible refine HF.out.mono ?_);rintro _ w2 ⟨rfl,q,rfl⟩)
   go_quiet (fail)
   go_wp2_with fail
   go_ret2
   exact⟨rfl,_,dN2 _ _ _⟩
 rw[decide_eq_false hf] at hfl
 rw[if_neg hf]
 generalize hA:(match zcv id key l with|none=>Value.tuple #[.string ⟨#[]⟩,.int .i64 6]|some x=>.tuple #[.string x,.int .i64 0])=A
 have HA:=lh hA
 clear hA
 have HF:=lh hfl
 obtain⟨a,c,rfl,hz,hc⟩:=hl2
 have HC:=lh hc
 clear hfl hf hc
 go_enter Tryz.func362,Tryz.ntmps362
 go_wp2_with (go_at_call 364;(with_reducible refine HF.out.mono ?_);rintro _ w2 ⟨rfl,q0,rfl⟩)
 go_loopw [8] (fun i wr=>∃ (k:Nat),k<=l.length∧i=.int .i64 k∧Hid (zcv id key (l.drop k)=zcv id key l)∧∃ q,wr=W.drewN q) (fun i _=>l.length - (intOf i).toNat)
 case atStart=>exact⟨0,Nat.zero_le _,rfl,lh rfl,_,rfl⟩
 case round =>
  obtain⟨k,hk,rfl,HJ,q,rfl⟩:=hrel
  by_cases hlt:k<l.length
  · obtain⟨b,o,rfl,hb,hcell⟩:=HC.out (by omega)
    obtain⟨p0,p1,p2⟩:=hcell k hlt
    have j1:(0:Int)<=(k:Int):=by omega
    have j2:(k:Int)<(l.length:Int):=by omega
    by_cases e1:l[k].1=id
    rotate_left
    · have t1:(l[k].1==id)=false:=by rw[beq_eq_false_iff_ne];exact e1
      have HQ:Hid (zcv id key (l.drop (k+1))=zcv id key l):=lh ((zd1 hlt (fun h=>e1 h.1)).trans HJ.out)
      clear e1 hcell
      go_wp2_with fail
      go_roundw
      case rel=>exact⟨k+1,by omega,by go_num,HQ,_,rfl⟩
      case measure=>simp [intOf];omega
    have t1:(l[k].1==id)=true:=by rw[beq_iff_eq];exact e1
    have t3:=zeC l[k].2.1 key
    by_cases e3:l[k].2.1=key
    · rw[decide_eq_true e3] at t3
      have HQ:Hid (zcv id key l=some l[k].2.2):=lh (HJ.out.symm.trans (ziK hlt ⟨e1,e3⟩))
      clear e1 e3 hcell
      go_wp2_with fail
      go_ret2
      exact⟨by rw[<-HA.out,HQ.out];rfl,_,rfl⟩
    · rw[decide_eq_false e3] at t3
      have HQ:Hid (zcv id key (l.drop (k+1))=zcv id key l):=lh ((zd1 hlt (fun h=>e3 h.2)).trans HJ.out)
      clear e1 e3 hcell
      go_wp2_with fail
      go_roundw
      case rel=>exact⟨k+1,by omega,by go_num,HQ,_,rfl⟩
      case measure=>simp [intOf];omega
  · obtain rfl:k=l.length:=by omega
    have HN:Hid (zcv id key l=none):=lh (by rw[<-HJ.out,List.drop_length];rfl)
    go_wp2_with fail
    go_ret2
    exact⟨by rw[<-HA.out,HN.out];rfl,_,rfl⟩
theorem zmc(a : Addr)(n : Nat)(w : World) : (method (n + 1) 37 (.pointer (some a)) "Get").run Tryz.prog w = .ok (362, .pointer (some a)) w := by kernel_rfl
theorem zqM(p:Nat)(sv:Value)(l:List Rw)(fl cd ca id:Int)(key:ByteArray)(w0 w:World)(h:SHs w0 w p sv l fl cd ca)(h0:0<=ca)(h1:ca<1000000000) :
  Calls Tryz.prog 362 #[.pointer (some ⟨p,0,none⟩),.int .i64 id,.string key] w fun r w'=>r=.returned (gtV fl cd ca (zcv id key l))∧SHs w0 w' p sv l fl cd (ca+1)∧w.grownBy w' (some p):=by
 refine (zsn p sv fl cd ca id key l w h.f h.r h.ne h0 h1).mono ?_
 rintro _ w' ⟨rfl,q,rfl⟩
 exact⟨rfl,(h.tick (ca+1) q).1,(h.tick (ca+1) q).2⟩
end
section
def EnR(B:Nat)(w':World)(x:Fu)(code:Int)(r:Ending):Prop :=
 ∃ (al gr:Value),r=.returned (.tuple #[.agg (x.1.vals al gr),.int .i64 code])∧IS w' al x.2.1∧GS w' gr x.2.2∧(∀ q,al.ownBlock=some q->B<=q)∧(∀ q,gr.ownBlock=some q->B<=q)
theorem EnR.zero(B:Nat)(w':World)(code:Int):EnR B w' zF0 code (.returned (.tuple #[.agg (zlit 0 ⟨#[]⟩),.int .i64 code])) :=
 ⟨.slice none 0 0,.slice none 0 0,by rw[zbA];rfl,IS.nil _,GS.nil _,(fun _ h=>by cases h),(fun _ h=>by cases h)⟩
theorem EnR.le{B C:Nat}{w':World}{x:Fu}{code:Int}{r:Ending}(h:EnR B w' x code r)(hl:C<=B):EnR C w' x code r:=by
 obtain⟨al,gr,h1,h2,h3,h4,h5⟩:=h
 exact⟨al,gr,h1,h2,h3,fun q hq=>Nat.le_trans hl (h4 q hq),fun q hq=>Nat.le_trans hl (h5 q hq)⟩
theorem ziJ{al:Value}{B C:Nat}(h:∀ q,al.ownBlock=some q->C<=q)(hl:B<C):∀ q,al.ownBlock=some q->B<q:=fun q hq=>Nat.lt_of_lt_of_le hl (h q hq)
theorem EnR.put{B:Nat}{W:World}{x:Fu}{al gr:Value}{code:Int}(hH:Held W B 33)(hI:IS W al x.2.1)(hG:GS W gr x.2.2)(h1:∀ q,al.ownBlock=some q->B<q)(h2:∀ q,gr.ownBlock=some q->B<q) :
  EnR B (W.setRow B (x.1.vals al gr)) x code (.returned (.tuple #[.agg (row (W.setRow B (x.1.vals al gr)) B),.int .i64 code])):=by
 have hk:∀ j,B+1<=j->j<W.heap.size->(W.setRow B (x.1.vals al gr)).heap[j]?=W.heap[j]?:=fun j h1 _=>zaN _ _ _ _ (by omega)
 refine⟨al,gr,congrArg (fun z=>Ending.returned (.tuple #[.agg z,.int .i64 code])) (zad hH _),hI.keep (B+1) (fun y hy=>h1 y hy) (by simp) hk,hG.keep (B+1) (fun y hy=>h2 y hy) (by simp) hk,fun q hq=>Nat.le_of_lt (h1 q hq),fun q hq=>Nat.le_of_lt (h2 q hq)⟩
theorem EnR.put0{B:Nat}{W:World}{code:Int}(hH:Held W B 33):EnR B (W.setRow B (zlit 0 ⟨#[]⟩)) zF0 code (.returned (.tuple #[.agg (row (W.setRow B (zlit 0 ⟨#[]⟩)) B),.int .i64 code])):=by
 rw[zbA]
 exact EnR.put (x:=zF0) hH (IS.nil _) (GS.nil _) (fun _ h=>by cases h) (fun _ h=>by cases h)
theorem zbf{B:Nat}{W:World}{cs:Array Value}(hH:Held W B 33)(hc:cs.size=33):(row (W.setRow B cs) B).size=32+1:=(congrArg Array.size (zad hH cs)).trans hc
theorem Held.grown{w w':World}{p:Option Nat}{g n:Nat}(h:Held w g n)(hg:w.grownBy w' p)(hne:p≠some g):Held w' g n:=by
 obtain⟨t,fr,hb⟩:=zbm h
 have hlt:=(Array.getElem?_eq_some_iff.1 hb).1
 have e:=hg.block g hlt (fun e=>hne e.symm)
 refine⟨?_,h.2.1,fun o=>(World.frozen?_of_block (a:=⟨g,o,none⟩) e).trans (h.2.2 o)⟩
 have:=h.1
 unfold row at this ⊢
 rw[e];exact this
attribute [local go_sem ↓] zaX za0 zaD zbg
attribute [local go_sem] zaA zas zan zaM zaO zah zat zai zau zaf zak zaq zab zap zaj zaE zaC zao zam zax zaL zay zaz
theorem zgl(key s:ByteArray)(w:World)(hm:MaxL w)(hT:Tab w) :
  Calls Tryz.prog 59 #[.string key,.string s] w fun r w'=>EnR w.heap.size w' (zbb key s).1 (zbb key s).2 r∧Below w.heap.size w w':=by
 cases hdx:zc6 (Ds.bl s) with
 | none =>
   have hf:zbb key s=(zF0,11):=by unfold zbb;rw[hdx]
   rw[hf]
   have HD:=lh (fun W (b:Below w.heap.size w W)=>zm7 s W (hm.below b) (hT.below b) hdx)
   clear hf hdx
   go_enter Tryz.func59,Tryz.ntmps59
   go_wp2_with (go_at_call 39;(refine (HD.out _ (by exact za4)).mono ?_);rintro _ w3 ⟨a1,c1,a2,c2,rfl,hI,hGs,hb3⟩;have hone:=zav En.zero (.slice a1 0 c1) (.slice a2 0 c2) rfl rfl;have B3:=lh (below1 hb3);have H3:=zca w3 (.cells (En.zero.vals (.slice a1 0 c1) (.slice a2 0 c2)) 32) _ _ (Held.below (zeu w 32) hb3);clear hI hGs hb3)
   refine bodyPost_ret (zaK (n:=32) rfl Tryz.underlying32 rfl (by kernel_rfl) _ _ w.heap.size rfl (zbf H3 rfl)) rfl ?_
   exact⟨EnR.put0 H3,below_setRow (B3.out.alloc B3.out.size _) (Nat.le_refl _) _⟩
 | some y =>
   have hky:=zlr y key
   have HD:=lh (fun W (b:Below w.heap.size w W)=>znp s y W (hm.below b) (hT.below b) hdx)
   have HK:=lh (fun W=>zgY y.1.kind y.1.name W)
   by_cases hk:zhf y=Ds.bl key
   · have hf:zbb key s=(y,0):=by unfold zbb;rw[hdx];exact if_pos hk
     rw[decide_eq_true hk] at hky
     rw[hf]
     clear hf hdx hk
     generalize zbl y.1.kind y.1.name=kz at hky HK
     go_enter Tryz.func59,Tryz.ntmps59
     go_wp2_with (first
      | (go_at_call 39;(refine (HD.out _ (by exact za4)).mono ?_);rintro _ w3 ⟨a1,c1,a2,c2,rfl,hI,hGs,hb3,hf1,hf2⟩;have hone:=zav y.1 (.slice a1 y.2.1.length c1) (.slice a2 y.2.2.length c2) rfl rfl;have B3:=lh (below1 hb3);have H3:=zca w3 (.cells (y.1.vals (.slice a1 y.2.1.length c1) (.slice a2 y.2.2.length c2)) 32) _ _ (Held.below (zeu w 32) hb3);have HI:=lh hI;have HGS:=lh hGs;have HF1:=lh hf1;have HF2:=lh hf2;clear hI hGs hb3 hf1 hf2;have R0:=zai w3 (y.1.vals (.slice a1 y.2.1.length c1) (.slice a2 y.2.2.length c2)) 32 (0,0);have N0:=zaa R0 0 _ (zay _ _ _);have N1:=zaa R0 1 _ (zaz _ _ _))
      | (go_at_call 58;(with_reducible refine (HK.out _).mono ?_);rintro _ w4 ⟨rfl,hb4⟩;have R4:=zae hb4 R0 (by rw[zab];decide);have H4:=H3.below hb4;have B4:=lh (below1 hb4);clear hb4))
     refine bodyPost_ret (zaK (n:=32) rfl Tryz.underlying32 rfl (by kernel_rfl) _ _ w.heap.size rfl (zbf H4 (zab _ _ _))) rfl ?_
     exact⟨EnR.put (x:=y) H4 (HI.out.below B4.out) (HGS.out.below B4.out) (ziJ HF1.out (by simp)) (ziJ HF2.out (by simp)),below_setRow (bt B3.out B4.out) (Nat.le_refl _) _⟩
   · have hf:zbb key s=(zF0,11):=by unfold zbb;rw[hdx];exact if_neg hk
     rw[decide_eq_false hk] at hky
     rw[hf]
     clear hf hdx hk
     generalize zbl y.1.kind y.1.name=kz at hky HK
     go_enter Tryz.func59,Tryz.ntmps59
     go_wp2_with (first
      | (go_at_call 39;(refine (HD.out _ (by exact za4)).mono ?_);rintro _ w3 ⟨a1,c1,a2,c2,rfl,hI,hGs,hb3,hf1,hf2⟩;have hone:=zav y.1 (.slice a1 y.2.1.length c1) (.slice a2 y.2.2.length c2) rfl rfl;have B3:=lh (below1 hb3);have H3:=zca w3 (.cells (y.1.vals (.slice a1 y.2.1.length c1) (.slice a2 y.2.2.length c2)) 32) _ _ (Held.below (zeu w 32) hb3);clear hI hGs hb3 hf1 hf2;have R0:=zai w3 (y.1.vals (.slice a1 y.2.1.length c1) (.slice a2 y.2.2.length c2)) 32 (0,0);have N0:=zaa R0 0 _ (zay _ _ _);have N1:=zaa R0 1 _ (zaz _ _ _))
      | (go_at_call 58;(with_reducible refine (HK.out _).mono ?_);rintro _ w4 ⟨rfl,hb4⟩;have H4:=H3.below hb4;have B4:=lh (bt B3.out (below1 hb4));clear hb4))
     refine bodyPost_ret (zaK (n:=32) rfl Tryz.underlying32 rfl (by kernel_rfl) _ _ w.heap.size rfl (zbf H4 rfl)) rfl ?_
     exact⟨EnR.put0 H4,below_setRow B4.out (Nat.le_refl _) _⟩
def CatR(w0 w w':World)(p:Nat)(sv:Value)(l:List Rw)(fl cd:Int)(g:(Fu × Int) × Int)(r:Ending):Prop :=
 EnR w.heap.size w' g.1.1 g.1.2 r∧SHs w0 w' p sv l fl cd g.2∧w.grownBy w' (some p)
theorem CatR.put{w0 w W:World}{p:Nat}{sv:Value}{l:List Rw}{fl cd ca c:Int}{x:Fu}{al gr:Value}{code:Int}(hS:SHs w0 w p sv l fl cd ca)(hH:Held W w.heap.size 33)(h3:SHs w0 W p sv l fl cd c)(hG:w.grownBy W (some p))(hI:IS W al x.2.1)(hg:GS W gr x.2.2)(h1:∀ q,al.ownBlock=some q->w.heap.size<q)(h2:∀ q,gr.ownBlock=some q->w.heap.size<q) :
  CatR w0 w (W.setRow w.heap.size (x.1.vals al gr)) p sv l fl cd ((x,code),c) (.returned (.tuple #[.agg (row (W.setRow w.heap.size (x.1.vals al gr)) w.heap.size),.int .i64 code])):=by
 have hb:Below w.heap.size W (W.setRow w.heap.size (x.1.vals al gr)):=below_setRow (Below.refl _ _) (Nat.le_refl _) _
 exact⟨EnR.put hH hI hg h1 h2,h3.belowB hb hS.pl (fun h b hb=>zez hS.r h b hb),zaG hG hb⟩
theorem CatR.put0{w0 w W:World}{p:Nat}{sv:Value}{l:List Rw}{fl cd ca c:Int}{code:Int}(hS:SHs w0 w p sv l fl cd ca)(hH:Held W w.heap.size 33)(h3:SHs w0 W p sv l fl cd c)(hG:w.grownBy W (some p)) :
  CatR w0 w (W.setRow w.heap.size (zlit 0 ⟨#[]⟩)) p sv l fl cd ((zF0,code),c) (.returned (.tuple #[.agg (row (W.setRow w.heap.size (zlit 0 ⟨#[]⟩)) w.heap.size),.int .i64 code])):=by
 rw[zbA]
 exact CatR.put (x:=zF0) hS hH h3 hG (IS.nil _) (GS.nil _) (fun _ h=>by cases h) (fun _ h=>by cases h)
theorem zdT(p:Nat)(sv:Value)(l:List Rw)(fl cd ca id kind:Int)(name:ByteArray)(w0 w:World)(hm:MaxL w0)(hT:Tab w0)(hS:SHs w0 w p sv l fl cd ca)(hc0:0<=ca)(hc1:ca<=100000)(hcd:cd≠0∨fl<=0) :
  Calls Tryz.prog 14 #[.iface 37 (.pointer (some ⟨p,0,none⟩)),.int .i64 id,.int .i64 kind,.string name] w fun r w'=>CatR w0 w w' p sv l fl cd (zbs l fl cd ca id kind name) r:=by
 have HK:=lh (fun W=>zgY kind name W)
 have HS:=lh hS
 have hpl:=hS.pl
 have hmt:=zmc ⟨p,0,none⟩
 have hne:(some p:Option Nat)≠some w.heap.size:=fun e=>by have:=Option.some.inj e;omega
 have HZ:=lh (zeu w 32)
 clear hS
 generalize hg:zbs l fl cd ca id kind name=g
 unfold zbs at hg
 by_cases hk:zbl kind name=⟨#[]⟩
 · rw[if_pos hk] at hg
   subst hg
   rw[hk] at HK
   clear hk
   go_enter Tryz.func14,Tryz.ntmps14
   go_wp2_with (go_at_call 58;(with_reducible refine (HK.out _).mono ?_);rintro _ w2 ⟨rfl,hb⟩;have H2:=HZ.out.below hb;have B2:=lh (below1 hb);clear hb)
   refine bodyPost_ret (zaK (n:=32) rfl Tryz.underlying32 rfl (by kernel_rfl) _ _ w.heap.size rfl (zbf H2 rfl)) rfl ?_
   have B3:=below_setRow B2.out (Nat.le_refl _) (zlit 0 ⟨#[]⟩)
   exact⟨EnR.put0 H2,HS.out.below B3,zaw _ B3⟩
 rw[if_neg hk] at hg
 have e0:(zbl kind name).toList.isEmpty=false:=zbp _ (by
  rcases Nat.eq_zero_or_pos (zbl kind name).size with h|h
  · exact absurd (Ds.bl_inj (List.eq_nil_of_length_eq_zero (by rw[Ds.bl_length];exact h))) hk
  · exact h)
 clear hk
 generalize zbl kind name=kz at HK hg e0
 have hgt:=fun W (h:SHs w0 W p sv l fl cd ca)=>zqM p sv l fl cd ca id kz w0 W h hc0 (by omega)
 unfold gtV at hgt
 by_cases hf:ca+1=fl
 · rw[if_pos hf] at hg hgt
   subst hg
   have HG:=lh hgt
   have hcd':cd≠0:=by rcases hcd with h|h;exact h;omega
   have t1:(cd != 0)=true:=by rw[bne_iff_ne];exact hcd'
   have t2:(cd==0)=false:=by rw[beq_eq_false_iff_ne];exact hcd'
   clear hgt hcd hcd' hf
   go_enter Tryz.func14,Tryz.ntmps14
   go_wp2_with (first
    | (go_at_call 58;(with_reducible refine (HK.out _).mono ?_);rintro _ w2 ⟨rfl,hb⟩;have H2:=HZ.out.below hb;have B2:=lh (below1 hb);have S2:=lh (HS.out.below B2.out);have z2:w.heap.size<w2.heap.size:=(by have:=hb.size;simp at this;omega);clear hb)
    | (go_at_call 362;(with_reducible refine (HG.out _ S2.out).mono ?_);rintro _ w3 ⟨rfl,s1,s2⟩;have S3:=lh s1;have G3:=lh s2;have H3:=H2.grown s2 hne;clear s1 s2))
   refine bodyPost_ret (zaK (n:=32) rfl Tryz.underlying32 rfl (by kernel_rfl) _ _ w.heap.size rfl (zbf H3 rfl)) rfl ?_
   exact CatR.put0 HS.out H3 S3.out (zaI (zaw _ B2.out) G3.out)
 rw[if_neg hf] at hg hgt
 clear hf
 cases hr:zcv id kz l with
 | none =>
   rw[hr] at hg hgt
   subst hg
   have HG:=lh hgt
   clear hgt hcd hr
   go_enter Tryz.func14,Tryz.ntmps14
   go_wp2_with (first
    | (go_at_call 58;(with_reducible refine (HK.out _).mono ?_);rintro _ w2 ⟨rfl,hb⟩;have H2:=HZ.out.below hb;have B2:=lh (below1 hb);have S2:=lh (HS.out.below B2.out);have z2:w.heap.size<w2.heap.size:=(by have:=hb.size;simp at this;omega);clear hb)
    | (go_at_call 362;(with_reducible refine (HG.out _ S2.out).mono ?_);rintro _ w3 ⟨rfl,s1,s2⟩;have S3:=lh s1;have G3:=lh s2;have H3:=H2.grown s2 hne;clear s1 s2))
   refine bodyPost_ret (zaK (n:=32) rfl Tryz.underlying32 rfl (by kernel_rfl) _ _ w.heap.size rfl (zbf H3 rfl)) rfl ?_
   exact CatR.put0 HS.out H3 S3.out (zaI (zaw _ B2.out) G3.out)
 | some s =>
   rw[hr] at hg hgt
   replace hg:(zbb kz s,ca+1)=g:=hg
   subst hg
   have HG:=lh hgt
   have HR:=lh (fun W (b:Below w0.heap.size w0 W)=>zgl kz s W (hm.below b) (hT.below b))
   clear hgt hcd hr
   generalize zbb kz s=xc at HR ⊢
   obtain⟨x,code⟩:=xc
   go_enter Tryz.func14,Tryz.ntmps14
   go_wp2_with (first
    | (go_at_call 58;(with_reducible refine (HK.out _).mono ?_);rintro _ w2 ⟨rfl,hb⟩;have H2:=HZ.out.below hb;have B2:=lh (below1 hb);have S2:=lh (HS.out.below B2.out);have z2:w.heap.size<w2.heap.size:=(by have:=hb.size;simp at this;omega);clear hb)
    | (go_at_call 362;(with_reducible refine (HG.out _ S2.out).mono ?_);rintro _ w3 ⟨rfl,s1,s2⟩;have S3:=lh s1;have G3:=lh s2;have H3:=H2.grown s2 hne;clear s1 s2)
    | (go_at_call 59;(refine (HR.out _ S3.out.b).mono ?_);rintro _ w4 ⟨⟨al,gr,rfl,hI,hGs,hf1,hf2⟩,hb4⟩;have hone:=zav x.1 al gr (zaT hI) (zaU hGs);have H4:=H3.below hb4;have HI:=lh hI;have HGS:=lh hGs;have HF1:=lh hf1;have HF2:=lh hf2;have B4:=lh hb4;clear hI hGs hf1 hf2 hb4))
   refine bodyPost_ret (zaK (n:=32) rfl Tryz.underlying32 rfl (by kernel_rfl) _ _ w.heap.size rfl (zbf H4 (zab _ _ _))) rfl ?_
   have z3:=(zaI (zaw _ B2.out) G3.out).size
   exact CatR.put (x:=x) HS.out H4 (S3.out.below B4.out) (zaG (zaI (zaw _ B2.out) G3.out) (B4.out.mono z3)) HI.out HGS.out (fun q hq=>by have:=HF1.out q hq;have:=G3.out.size;omega) (fun q hq=>by have:=HF2.out q hq;have:=G3.out.size;omega)
theorem zeQ(p:Nat)(sv:Value)(l:List Rw)(fl cd ca id:Int)(name:ByteArray)(w0 w:World)(hm:MaxL w0)(hT:Tab w0)(hS:SHs w0 w p sv l fl cd ca)(hc0:0<=ca)(hc1:ca<=90000)(hcd:cd≠0∧cd≠6∨fl<=0) :
  Calls Tryz.prog 16 #[.iface 37 (.pointer (some ⟨p,0,none⟩)),.int .i64 id,.string name] w fun r w'=>CatR w0 w w' p sv l fl cd (zbL l fl cd ca id name) r:=by
 have HV:=lh (fun W (b:Below w0.heap.size w0 W)=>zbX name W (hm.below b))
 have HS:=lh hS
 have hpl:=hS.pl
 have hcd2:cd≠0∨fl<=0:=by omega
 have hne:(some p:Option Nat)≠some w.heap.size:=fun e=>by have:=Option.some.inj e;omega
 have HZ:=lh (zeu w 32)
 have HG:=lh (fun (c k:Int) W (h:SHs w0 W p sv l fl cd c) (h0:0<=c) (h1:c<=100000)=>zdT p sv l fl cd c id k name w0 W hm hT h h0 h1 hcd2)
 clear hS hm hT hcd hcd2
 generalize hg:zbL l fl cd ca id name=g
 unfold zbL at hg
 cases hv:Ds.name (Ds.bl name)
 · rw[if_pos hv] at hg
   subst hg
   rw[hv] at HV
   clear hv
   go_enter Tryz.func16,Tryz.ntmps16
   go_wp2_with (go_at_call 62;(with_reducible refine (HV.out _ (by exact (HS.out.below (zag _ _)).b)).mono ?_);rintro _ w2 ⟨rfl,hb⟩;have H2:=HZ.out.below hb;have B2:=lh (below1 hb);clear hb)
   refine bodyPost_ret (zaK (n:=32) rfl Tryz.underlying32 rfl (by kernel_rfl) _ _ w.heap.size rfl (zbf H2 rfl)) rfl ?_
   exact CatR.put0 HS.out H2 (HS.out.below B2.out) (zaw _ B2.out)
 rw[if_neg (by rw[hv];simp)] at hg
 rw[hv] at HV
 have HGG:=lh hg
 clear hv hg
 go_enter Tryz.func16,Tryz.ntmps16
 go_wp2_with (go_at_call 62;(with_reducible refine (HV.out _ (by exact (HS.out.below (zag _ _)).b)).mono ?_);rintro _ w2 ⟨rfl,hb⟩;have H2:=HZ.out.below hb;have B2:=lh (below1 hb);have z2:w.heap.size<w2.heap.size:=(by have:=hb.size;simp at this;omega);clear hb)
 go_loopw [18] (fun i wr=>∃ (k:Nat) (c:Int),k<=3∧i=.int .i64 k∧0<=c∧c<=ca+k∧Hid (zdU l fl cd id name (([0,1,2]:List Int).drop k) c=g)∧SHs w0 wr p sv l fl cd c∧w.grownBy wr (some p)∧Held wr w.heap.size 33∧w2.heap.size<wr.heap.size∧(∀ j,j<3->wr.cell? ⟨w2.heap.size,j,none⟩=some (.int .i64 j))) (fun i _=>3 - (intOf i).toNat)
 case atStart =>
  refine⟨0,ca,by decide,rfl,hc0,by simp,HGG,(HS.out.below B2.out).below (zag _ _),zaw _ (bt B2.out (zag _ _)),zca _ _ _ _ H2,by simp,fun j hj=>?_⟩
  rw[cell_of_row _ _ j _ 3 (0,0) (heap_alloc_new w2 _)]
  rcases (by omega:j=0∨j=1∨j=2) with rfl|rfl|rfl <;> rfl
 case round =>
  obtain⟨k,c,hk,rfl,h0,h1,HH,hs,hg,hH,hlt2,hcell⟩:=hrel
  have HSr:=lh hs
  have HGr:=lh hg
  have HC:=lh hcell
  clear hs hg
  by_cases hlt:k<3
  · have p0:=hcell k hlt
    have hd:(([0,1,2]:List Int).drop k)=(k:Int)::(([0,1,2]:List Int).drop (k+1)):=by
     rcases (by omega:k=0∨k=1∨k=2) with rfl|rfl|rfl <;> rfl
    have hstep:=HH.out
    rw[hd] at hstep
    unfold zdU at hstep
    have hget:=HG.out c k wr HSr.out h0 (by omega)
    have hca:=zbU l fl cd c id k name
    generalize zbs l fl cd c id k name=gg at hget hca hstep
    obtain⟨⟨x,code⟩,cb⟩:=gg
    dsimp only at hca hstep
    have HGE:=lh hget
    have j1:(0:Int)<=(k:Int):=by omega
    have j2:(k:Int)<3:=by omega
    have hwr:w.heap.size<wr.heap.size:=by omega
    clear hget hcell hd HH
    by_cases h6:code=6
    · rw[if_pos h6] at hstep
      have HST:=lh hstep
      have t1:(code != 6)=false:=by rw[h6];rfl
      clear hstep
      go_wp2_with (go_at_call 14;(refine HGE.out.mono ?_);rintro _ w3 ⟨⟨al,gr,rfl,hI,hGs,hf1,hf2⟩,hs3,hg3⟩;have hone:=zav x.1 al gr (zaT hI) (zaU hGs);have S3:=lh hs3;have G3:=lh hg3;clear hI hGs hf1 hf2 hs3 hg3)
      go_roundw
      case rel =>
       have z3:=G3.out.size
       refine⟨k+1,cb,by omega,by go_num,by omega,by omega,HST,S3.out.below (zag _ _),zaG (zaI HGr.out G3.out) ((zag _ _).mono (by omega)),zca _ _ _ _ (hH.grown G3.out hne),by simp;omega,fun j hj=>?_⟩
       rw[<-HC.out j hj]
       exact World.cell?_of_block (a:=⟨w2.heap.size,j,none⟩) ((heap_alloc_old w3 _ (show w2.heap.size<w3.heap.size by omega)).trans (G3.out.block w2.heap.size hlt2 (fun e:(some w2.heap.size:Option Nat)=some p=>by have:=Option.some.inj e;omega)))
      case measure=>simp [intOf];omega
    · rw[if_neg h6] at hstep
      subst hstep
      have t1:(code != 6)=true:=by rw[bne_iff_ne];exact h6
      go_wp2_with (go_at_call 14;(refine HGE.out.mono ?_);rintro _ w3 ⟨⟨al,gr,rfl,hI,hGs,hf1,hf2⟩,hs3,hg3⟩;have hone:=zav x.1 al gr (zaT hI) (zaU hGs);have S3:=lh hs3;have G3:=lh hg3;have HI:=lh hI;have HGS:=lh hGs;have HF1:=lh hf1;have HF2:=lh hf2;have H3:=zca w3 (.cells (x.1.vals al gr) 32) _ _ (hH.grown hg3 hne);clear hI hGs hf1 hf2 hs3 hg3)
      refine bodyPost_ret (zaK (n:=32) rfl Tryz.underlying32 rfl (by kernel_rfl) _ _ w.heap.size rfl (zbf H3 (zab _ _ _))) rfl ?_
      exact CatR.put (x:=x) HS.out H3 (S3.out.below (zag _ _)) (zaG (zaI HGr.out G3.out) ((zag _ _).mono (by have:=G3.out.size;omega))) (HI.out.below (zag _ _)) (HGS.out.below (zag _ _)) (fun q hq=>by have:=HF1.out q hq;omega) (fun q hq=>by have:=HF2.out q hq;omega)
  · obtain rfl:k=3:=by omega
    have hstep:((zF0,6),c)=g:=HH.out
    subst hstep
    go_wp2_with fail
    refine bodyPost_ret (zaK (n:=32) rfl Tryz.underlying32 rfl (by kernel_rfl) _ _ w.heap.size rfl (zbf hH rfl)) rfl ?_
    exact CatR.put0 HS.out hH HSr.out HGr.out
end
section
theorem zkW(k:Int)(s:ByteArray)(w:World):Calls Tryz.prog 112 #[.int .i64 k,.string s] w fun r w'=>r=.returned (.string (zbl k s))∧w=w':=by
 refine (rkey k s w).mono ?_
 rintro _ w' ⟨t,rfl,ht,hb⟩
 exact⟨zfi (Ds.bl_inj (ht.trans (zcD k s).symm)),hb.symm⟩
theorem zjF(v:Value)(l:List Rw)(id:Int)(key:ByteArray)(w:World)(hl:RwS w v l) :
  Calls Tryz.prog 210 #[v,.int .i64 id,.string key] w fun r w'=>r=.returned (.tuple #[.string ((zcv id key l).getD ⟨#[]⟩),.bool (zcv id key l).isSome])∧Below w.heap.size w w':=by
 obtain⟨a,c,rfl,hz,hc⟩:=hl
 have HC:=lh hc
 clear hc
 go_enter Tryz.func210,Tryz.ntmps210
 go_wp2_with fail
 go_loopw [8] (fun i wr=>∃ (k:Nat),k<=l.length∧i=.int .i64 k∧Hid (zcv id key (l.drop k)=zcv id key l)∧∃ q,wr=w.drewN q) (fun i _=>l.length - (intOf i).toNat)
 case atStart=>exact⟨0,Nat.zero_le _,rfl,lh rfl,0,rfl⟩
 case round =>
  obtain⟨k,hk,rfl,HJ,q,rfl⟩:=hrel
  by_cases hlt:k<l.length
  · obtain⟨b,o,rfl,hb,hcell⟩:=HC.out (by omega)
    obtain⟨p0,p1,p2⟩:=hcell k hlt
    have j1:(0:Int)<=(k:Int):=by omega
    have j2:(k:Int)<(l.length:Int):=by omega
    by_cases e1:l[k].1=id
    rotate_left
    · have t1:(l[k].1==id)=false:=by rw[beq_eq_false_iff_ne];exact e1
      have HQ:Hid (zcv id key (l.drop (k+1))=zcv id key l):=lh ((zd1 hlt (fun h=>e1 h.1)).trans HJ.out)
      clear e1 hcell
      go_wp2_with fail
      go_roundw
      case rel=>exact⟨k+1,by omega,by go_num,HQ,_,rfl⟩
      case measure=>simp [intOf];omega
    have t1:(l[k].1==id)=true:=by rw[beq_iff_eq];exact e1
    have t3:=zeC l[k].2.1 key
    by_cases e3:l[k].2.1=key
    · rw[decide_eq_true e3] at t3
      have HQ:Hid (zcv id key l=some l[k].2.2):=lh (HJ.out.symm.trans (ziK hlt ⟨e1,e3⟩))
      clear e1 e3 hcell
      go_wp2_with fail
      go_ret2
      exact⟨by rw[HQ.out];rfl,below_drewN (Below.refl _ _) _⟩
    · rw[decide_eq_false e3] at t3
      have HQ:Hid (zcv id key (l.drop (k+1))=zcv id key l):=lh ((zd1 hlt (fun h=>e3 h.2)).trans HJ.out)
      clear e1 e3 hcell
      go_wp2_with fail
      go_roundw
      case rel=>exact⟨k+1,by omega,by go_num,HQ,_,rfl⟩
      case measure=>simp [intOf];omega
  · obtain rfl:k=l.length:=by omega
    have HN:Hid (zcv id key l=none):=lh (by rw[<-HJ.out,List.drop_length];rfl)
    go_wp2_with fail
    go_ret2
    exact⟨by rw[HN.out];rfl,below_drewN (Below.refl _ _) _⟩
attribute [local go_sem ↓] zaX za0 zaD zbg
attribute [local go_sem] zaA zas zan zaM zaO zah zat zai zau zaf zak zaq zab zap zaj zaE zaC zao zam zax zaL zay zaz
theorem zit(s:ByteArray)(w:World):Calls Tryz.prog 205 #[.string s] w fun r w'=>∃ (x:Fu) (al gr:Value) (code:Int),r=.returned (.tuple #[.agg (x.1.vals al gr),.int .i64 code])∧IS w' al x.2.1∧GS w' gr x.2.2∧Below w.heap.size w w'∧(zc6 (Ds.bl s)=some x∧code=0∨zc6 (Ds.bl s)=none∧x=(En.zero,[],[])∧code=11)∧(∀ q,al.ownBlock=some q->w.heap.size<=q)∧(∀ q,gr.ownBlock=some q->w.heap.size<=q):=zmA s w
theorem znf(key s:ByteArray)(w:World) :
  Calls Tryz.prog 211 #[.string key,.string s] w fun r w'=>EnR w.heap.size w' (zbb key s).1 (zbb key s).2 r∧Below w.heap.size w w':=by
 cases hdx:zc6 (Ds.bl s) with
 | none =>
   have hf:zbb key s=(zF0,11):=by unfold zbb;rw[hdx]
   rw[hf]
   have hd:=fun W=>zit s W
   rw[hdx] at hd
   have HD:=lh hd
   clear hf hd hdx
   go_enter Tryz.func211,Tryz.ntmps211
   go_wp2_with (go_at_call 205;(refine (HD.out _).mono ?_);rintro _ w3 ⟨x,al,gr,code,rfl,hI,hGs,hb3,hc,-⟩;obtain⟨rfl,rfl⟩:x=zF0∧code=11:=(by rcases hc with ⟨h,-⟩|⟨-,h1,h2⟩;cases h;exact⟨h1,h2⟩);have hone:=zav zF0.1 al gr (zaT hI) (zaU hGs);have B3:=lh (below1 hb3);have H3:=zca w3 (.cells (zF0.1.vals al gr) 32) _ _ (Held.below (zeu w 32) hb3);clear hI hGs hb3 hc)
   refine bodyPost_ret (zaK (n:=32) rfl Tryz.underlying32 rfl (by kernel_rfl) _ _ w.heap.size rfl (zbf H3 rfl)) rfl ?_
   exact⟨EnR.put0 H3,below_setRow (B3.out.alloc B3.out.size _) (Nat.le_refl _) _⟩
 | some y =>
   have hky:=zlr y key
   have hd:=fun W=>zit s W
   rw[hdx] at hd
   have HD:=lh hd
   have HK:=lh (fun W=>zkW y.1.kind y.1.name W)
   clear hd
   by_cases hk:zhf y=Ds.bl key
   · have hf:zbb key s=(y,0):=by unfold zbb;rw[hdx];exact if_pos hk
     rw[decide_eq_true hk] at hky
     rw[hf]
     clear hf hdx hk
     generalize zbl y.1.kind y.1.name=kz at hky HK
     go_enter Tryz.func211,Tryz.ntmps211
     go_wp2_with (first
      | (go_at_call 205;(refine (HD.out _).mono ?_);rintro _ w3 ⟨x,al,gr,code,rfl,hI,hGs,hb3,hc,hf1,hf2⟩;obtain⟨rfl,rfl⟩:x=y∧code=0:=(by rcases hc with ⟨h,h2⟩|⟨h,-⟩;exact⟨(Option.some.inj h).symm,h2⟩;cases h);have hone:=zav x.1 al gr (zaT hI) (zaU hGs);have B3:=lh (below1 hb3);have H3:=zca w3 (.cells (x.1.vals al gr) 32) _ _ (Held.below (zeu w 32) hb3);have HI:=lh hI;have HGS:=lh hGs;have HF1:=lh hf1;have HF2:=lh hf2;clear hI hGs hb3 hf1 hf2 hc;have R0:=zai w3 (x.1.vals al gr) 32 (0,0);have N0:=zaa R0 0 _ (zay _ _ _);have N1:=zaa R0 1 _ (zaz _ _ _))
      | (go_at_call 112;(with_reducible refine (HK.out _).mono ?_);rintro _ w4 ⟨rfl,rfl⟩))
     refine bodyPost_ret (zaK (n:=32) rfl Tryz.underlying32 rfl (by kernel_rfl) _ _ w.heap.size rfl (zbf H3 (zab _ _ _))) rfl ?_
     exact⟨EnR.put H3 (HI.out.below (zag _ _)) (HGS.out.below (zag _ _)) (ziJ HF1.out (by simp)) (ziJ HF2.out (by simp)),below_setRow (B3.out.alloc B3.out.size _) (Nat.le_refl _) _⟩
   · have hf:zbb key s=(zF0,11):=by unfold zbb;rw[hdx];exact if_neg hk
     rw[decide_eq_false hk] at hky
     rw[hf]
     clear hf hdx hk
     generalize zbl y.1.kind y.1.name=kz at hky HK
     go_enter Tryz.func211,Tryz.ntmps211
     go_wp2_with (first
      | (go_at_call 205;(refine (HD.out _).mono ?_);rintro _ w3 ⟨x,al,gr,code,rfl,hI,hGs,hb3,hc,hf1,hf2⟩;obtain⟨rfl,rfl⟩:x=y∧code=0:=(by rcases hc with ⟨h,h2⟩|⟨h,-⟩;exact⟨(Option.some.inj h).symm,h2⟩;cases h);have hone:=zav x.1 al gr (zaT hI) (zaU hGs);have B3:=lh (below1 hb3);have H3:=zca w3 (.cells (x.1.vals al gr) 32) _ _ (Held.below (zeu w 32) hb3);clear hI hGs hb3 hf1 hf2 hc;have R0:=zai w3 (x.1.vals al gr) 32 (0,0);have N0:=zaa R0 0 _ (zay _ _ _);have N1:=zaa R0 1 _ (zaz _ _ _))
      | (go_at_call 112;(with_reducible refine (HK.out _).mono ?_);rintro _ w4 ⟨rfl,rfl⟩))
     refine bodyPost_ret (zaK (n:=32) rfl Tryz.underlying32 rfl (by kernel_rfl) _ _ w.heap.size rfl (zbf H3 rfl)) rfl ?_
     exact⟨EnR.put0 H3,below_setRow (B3.out.alloc B3.out.size _) (Nat.le_refl _) _⟩
def RatR(w w':World)(g:Fu × Int)(r:Ending):Prop:=EnR w.heap.size w' g.1 g.2 r∧Below w.heap.size w w'
theorem RatR.put{w W:World}{x:Fu}{al gr:Value}{code:Int}(hH:Held W w.heap.size 33)(hb:Below w.heap.size w W)(hI:IS W al x.2.1)(hg:GS W gr x.2.2)(h1:∀ q,al.ownBlock=some q->w.heap.size<q)(h2:∀ q,gr.ownBlock=some q->w.heap.size<q) :
  RatR w (W.setRow w.heap.size (x.1.vals al gr)) (x,code) (.returned (.tuple #[.agg (row (W.setRow w.heap.size (x.1.vals al gr)) w.heap.size),.int .i64 code])) :=
 ⟨EnR.put hH hI hg h1 h2,below_setRow hb (Nat.le_refl _) _⟩
theorem RatR.put0{w W:World}{code:Int}(hH:Held W w.heap.size 33)(hb:Below w.heap.size w W) :
  RatR w (W.setRow w.heap.size (zlit 0 ⟨#[]⟩)) (zF0,code) (.returned (.tuple #[.agg (row (W.setRow w.heap.size (zlit 0 ⟨#[]⟩)) w.heap.size),.int .i64 code])) :=
 ⟨EnR.put0 hH,below_setRow hb (Nat.le_refl _) _⟩
theorem zik(v:Value)(l:List Rw)(id kind:Int)(name:ByteArray)(w:World)(hl:RwS w v l) :
  Calls Tryz.prog 116 #[v,.int .i64 id,.int .i64 kind,.string name] w fun r w'=>RatR w w' (zcV l id kind name) r:=by
 have HK:=lh (fun W=>zkW kind name W)
 have HZ:=lh (zeu w 32)
 generalize hg:zcV l id kind name=g
 unfold zcV zbs at hg
 by_cases hk:zbl kind name=⟨#[]⟩
 · rw[if_pos hk] at hg
   subst hg
   rw[hk] at HK
   have H2:=HZ.out
   clear hk hl
   go_enter Tryz.func116,Tryz.ntmps116
   go_wp2_with (go_at_call 112;(with_reducible refine (HK.out _).mono ?_);rintro _ w2 ⟨rfl,rfl⟩)
   refine bodyPost_ret (zaK (n:=32) rfl Tryz.underlying32 rfl (by kernel_rfl) _ _ w.heap.size rfl (zbf H2 rfl)) rfl ?_
   exact RatR.put0 H2 (zag _ _)
 rw[if_neg hk,if_neg (by decide)] at hg
 have e0:(zbl kind name).toList.isEmpty=false:=zbp _ (by
  rcases Nat.eq_zero_or_pos (zbl kind name).size with h|h
  · exact absurd (Ds.bl_inj (List.eq_nil_of_length_eq_zero (by rw[Ds.bl_length];exact h))) hk
  · exact h)
 clear hk
 generalize zbl kind name=kz at HK hg e0
 have hgt:=fun W (b:Below w.heap.size w W)=>zjF v l id kz W (hl.below b)
 have H2:=HZ.out
 clear hl
 cases hr:zcv id kz l with
 | none =>
   rw[hr] at hg hgt
   replace hg:(zF0,6)=g:=hg
   subst hg
   have HG:=lh hgt
   clear hgt hr
   go_enter Tryz.func116,Tryz.ntmps116
   go_wp2_with (first
    | (go_at_call 112;(with_reducible refine (HK.out _).mono ?_);rintro _ w2 ⟨rfl,rfl⟩)
    | (go_at_call 210;(refine (HG.out _ (zag _ _)).mono ?_);rintro _ w3 ⟨rfl,hb3⟩;have H3:=H2.below hb3;have B3:=lh (below1 hb3);clear hb3))
   refine bodyPost_ret (zaK (n:=32) rfl Tryz.underlying32 rfl (by kernel_rfl) _ _ w.heap.size rfl (zbf H3 rfl)) rfl ?_
   exact RatR.put0 H3 B3.out
 | some s =>
   rw[hr] at hg hgt
   replace hg:zbb kz s=g:=hg
   subst hg
   have HG:=lh hgt
   have HR:=lh (fun W=>znf kz s W)
   clear hgt hr
   generalize zbb kz s=xc at HR ⊢
   obtain⟨x,code⟩:=xc
   go_enter Tryz.func116,Tryz.ntmps116
   go_wp2_with (first
    | (go_at_call 112;(with_reducible refine (HK.out _).mono ?_);rintro _ w2 ⟨rfl,rfl⟩)
    | (go_at_call 210;(refine (HG.out _ (zag _ _)).mono ?_);rintro _ w3 ⟨rfl,hb3⟩;have H3:=H2.below hb3;have z3:w.heap.size<w3.heap.size:=(by have:=hb3.size;simp at this;omega);have B3:=lh (below1 hb3);clear hb3)
    | (go_at_call 211;(refine (HR.out _).mono ?_);rintro _ w4 ⟨⟨al,gr,rfl,hI,hGs,hf1,hf2⟩,hb4⟩;have hone:=zav x.1 al gr (zaT hI) (zaU hGs);have H4:=H3.below hb4;have HI:=lh hI;have HGS:=lh hGs;have HF1:=lh hf1;have HF2:=lh hf2;have B4:=lh hb4;clear hI hGs hf1 hf2 hb4))
   refine bodyPost_ret (zaK (n:=32) rfl Tryz.underlying32 rfl (by kernel_rfl) _ _ w.heap.size rfl (zbf H4 (zab _ _ _))) rfl ?_
   exact RatR.put H4 (bt B3.out B4.out) HI.out HGS.out (fun q hq=>by have:=HF1.out q hq;omega) (fun q hq=>by have:=HF2.out q hq;omega)
theorem ziH(v:Value)(l:List Rw)(id:Int)(name:ByteArray)(w:World)(hl:RwS w v l) :
  Calls Tryz.prog 117 #[v,.int .i64 id,.string name] w fun r w'=>RatR w w' (zb5 l id name) r:=by
 have HV:=lh (fun W=>zbu name W)
 have HZ:=lh (zeu w 32)
 have HG:=lh (fun (k:Int) W (b:Below w.heap.size w W)=>zik v l id k name W (hl.below b))
 clear hl
 generalize hg:zb5 l id name=g
 unfold zb5 at hg
 cases hv:Ds.name (Ds.bl name)
 · rw[if_pos hv] at hg
   subst hg
   rw[hv] at HV
   clear hv
   go_enter Tryz.func117,Tryz.ntmps117
   go_wp2_with (go_at_call 144;(with_reducible refine (HV.out _).mono ?_);rintro _ w2 ⟨rfl,hb⟩;have H2:=HZ.out.below hb;have B2:=lh (below1 hb);clear hb)
   refine bodyPost_ret (zaK (n:=32) rfl Tryz.underlying32 rfl (by kernel_rfl) _ _ w.heap.size rfl (zbf H2 rfl)) rfl ?_
   exact RatR.put0 H2 B2.out
 rw[if_neg (by rw[hv];simp)] at hg
 rw[hv] at HV
 have HGG:=lh hg
 clear hv hg
 go_enter Tryz.func117,Tryz.ntmps117
 go_wp2_with (go_at_call 144;(with_reducible refine (HV.out _).mono ?_);rintro _ w2 ⟨rfl,hb⟩;have H2:=HZ.out.below hb;have B2:=lh (below1 hb);have z2:w.heap.size<w2.heap.size:=(by have:=hb.size;simp at this;omega);clear hb)
 go_loopw [8] (fun i wr=>∃ (k:Nat),k<=3∧i=.int .i64 k∧Hid (zcg l id name (([0,1,2]:List Int).drop k)=g)∧Below w.heap.size w wr∧Held wr w.heap.size 33∧w.heap.size<wr.heap.size) (fun i _=>3 - (intOf i).toNat)
 case atStart=>exact⟨0,by decide,rfl,HGG,B2.out,H2,z2⟩
 case round =>
  obtain⟨k,hk,rfl,HH,B,hH,hlt2⟩:=hrel
  have HB:=lh B
  clear B
  by_cases hlt:k<3
  · have hd:(([0,1,2]:List Int).drop k)=(k:Int)::(([0,1,2]:List Int).drop (k+1)):=by
     rcases (by omega:k=0∨k=1∨k=2) with rfl|rfl|rfl <;> rfl
    have hstep:=HH.out
    rw[hd] at hstep
    unfold zcg at hstep
    have hget:=HG.out k wr HB.out
    generalize zcV l id k name=gg at hget hstep
    obtain⟨x,code⟩:=gg
    dsimp only at hstep
    have HGE:=lh hget
    have j1:(0:Int)<=(k:Int):=by omega
    have j2:(k:Int)<=2:=by omega
    clear hget hd HH
    by_cases h6:code=6
    · rw[if_pos h6] at hstep
      have HST:=lh hstep
      have t1:(code != 6)=false:=by rw[h6];rfl
      clear hstep
      go_wp2_with (go_at_call 116;(refine HGE.out.mono ?_);rintro _ w3 ⟨⟨al,gr,rfl,hI,hGs,hf1,hf2⟩,hb3⟩;have hone:=zav x.1 al gr (zaT hI) (zaU hGs);have B3:=lh hb3;clear hI hGs hf1 hf2 hb3)
      go_roundw
      case rel =>
       have z3:=B3.out.size
       exact⟨k+1,by omega,by go_num,HST,bt HB.out (bt B3.out (zag _ _)),zca _ _ _ _ (hH.below B3.out),by simp;omega⟩
      case measure=>simp [intOf];omega
    · rw[if_neg h6] at hstep
      subst hstep
      have t1:(code != 6)=true:=by rw[bne_iff_ne];exact h6
      go_wp2_with (go_at_call 116;(refine HGE.out.mono ?_);rintro _ w3 ⟨⟨al,gr,rfl,hI,hGs,hf1,hf2⟩,hb3⟩;have hone:=zav x.1 al gr (zaT hI) (zaU hGs);have B3:=lh hb3;have HI:=lh hI;have HGS:=lh hGs;have HF1:=lh hf1;have HF2:=lh hf2;have H3:=zca w3 (.cells (x.1.vals al gr) 32) _ _ (hH.below hb3);clear hI hGs hf1 hf2 hb3)
      refine bodyPost_ret (zaK (n:=32) rfl Tryz.underlying32 rfl (by kernel_rfl) _ _ w.heap.size rfl (zbf H3 (zab _ _ _))) rfl ?_
      exact RatR.put H3 (bt HB.out (bt B3.out (zag _ _))) (HI.out.below (zag _ _)) (HGS.out.below (zag _ _)) (fun q hq=>by have:=HF1.out q hq;omega) (fun q hq=>by have:=HF2.out q hq;omega)
  · obtain rfl:k=3:=by omega
    have hstep:(zF0,6)=g:=HH.out
    subst hstep
    go_wp2_with fail
    refine bodyPost_ret (zaK (n:=32) rfl Tryz.underlying32 rfl (by kernel_rfl) _ _ w.heap.size rfl (zbf hH rfl)) rfl ?_
    exact RatR.put0 hH HB.out
end
section
attribute [local go_sem ↓] zaX za0 zaD zbg
attribute [local go_sem] zaA zas zan zaM zaO zah zat zai zau zaf zak zaq zab zap zaj zaE zaC zao zam zax zaL zay zaz
end
section
attribute [local go_sem ↓] zaX za0 zaD zbg
attribute [local go_sem] zaA zas zan zaM zaO zah zat zai zau zaf zak zaq zab zap zaj zaE zaC zao zam zax zaL zay zaz
def En3(B:Nat)(w':World)(g:Fu × Int × Int)(r:Ending):Prop :=
 ∃ (al gr:Value),r=.returned (.tuple #[.agg (g.1.1.vals al gr),.int .i64 g.2.1,.int .i64 g.2.2])∧IS w' al g.1.2.1∧GS w' gr g.1.2.2∧(∀ q,al.ownBlock=some q->B<=q)∧(∀ q,gr.ownBlock=some q->B<=q)
theorem En3.put{B:Nat}{W:World}{x:Fu}{al gr:Value}{id code:Int}(hH:Held W B 33)(hI:IS W al x.2.1)(hG:GS W gr x.2.2)(h1:∀ q,al.ownBlock=some q->B<q)(h2:∀ q,gr.ownBlock=some q->B<q) :
  En3 B (W.setRow B (x.1.vals al gr)) (x,id,code) (.returned (.tuple #[.agg (row (W.setRow B (x.1.vals al gr)) B),.int .i64 id,.int .i64 code])):=by
 have hk:∀ j,B+1<=j->j<W.heap.size->(W.setRow B (x.1.vals al gr)).heap[j]?=W.heap[j]?:=fun j h1 _=>zaN _ _ _ _ (by omega)
 refine⟨al,gr,congrArg (fun z=>Ending.returned (.tuple #[.agg z,.int .i64 id,.int .i64 code])) (zad hH _),hI.keep (B+1) (fun y hy=>h1 y hy) (by simp) hk,hG.keep (B+1) (fun y hy=>h2 y hy) (by simp) hk,fun q hq=>Nat.le_of_lt (h1 q hq),fun q hq=>Nat.le_of_lt (h2 q hq)⟩
theorem En3.put0{B:Nat}{W:World}{code:Int}(hH:Held W B 33):En3 B (W.setRow B (zlit 0 ⟨#[]⟩)) (zF0,0,code) (.returned (.tuple #[.agg (row (W.setRow B (zlit 0 ⟨#[]⟩)) B),.int .i64 0,.int .i64 code])):=by
 rw[zbA]
 exact En3.put (x:=zF0) hH (IS.nil _) (GS.nil _) (fun _ h=>by cases h) (fun _ h=>by cases h)
theorem En3.le{B C:Nat}{w':World}{g:Fu × Int × Int}{r:Ending}(h:En3 B w' g r)(hl:C<=B):En3 C w' g r:=by
 obtain⟨al,gr,h1,h2,h3,h4,h5⟩:=h
 exact⟨al,gr,h1,h2,h3,fun q hq=>Nat.le_trans hl (h4 q hq),fun q hq=>Nat.le_trans hl (h5 q hq)⟩
end
section
def zlF:Value->Bool|.int .i64 _=>true|_=>false
theorem zkI(k:Int):zlF (.int .i64 k)=true:=rfl
theorem zqB(zs cs:Array Value)(v:Value)(hz:zs.size=34)(hc:cs.size=33) :
  (Array.foldl (fun cs (x:Value × Nat)=>cs.setIfInBounds x.snd x.fst) zs cs.zipIdx 0 33).setIfInBounds 33 v=cs.push v∧(Array.foldl (fun cs (x:Value × Nat)=>cs.setIfInBounds x.snd x.fst) zs cs.zipIdx 0 33).size=34:=by
 have e1:Array.foldl (fun cs (x:Value × Nat)=>cs.setIfInBounds x.snd x.fst) zs cs.zipIdx 0 33=over zs 0 cs.toList:=by
  have hs:cs.zipIdx.size=33:=by simp [hc]
  rw[<-hs,<-Array.foldl_toList,Array.toList_zipIdx,zes]
 rw[e1]
 refine⟨?_,by rw[zcM];exact hz⟩
 have:=zjl cs.toList [v] 0 zs
 rw[Array.length_toList,hc] at this
 have e2:over (over zs 0 cs.toList) (0+33) [v]=(over zs 0 cs.toList).setIfInBounds 33 v:=rfl
 rw[<-e2,this,<-Array.toList_push]
 exact zeS _ _ (by rw[hz,Array.size_push,hc])
def fc(cs:Array Value)(v:Value):Array Value:=cs.push v
theorem zqv(cs:Array Value)(v:Value):(fc cs v).size=cs.size+1:=by unfold fc;rw[Array.size_push]
theorem zs1(ev:Operand->Value)(w:World)(dst x y t pos af gd)(h3:zbJ (ev x)=true)(h4:(zaJ (ev x)).size=33)(h5:zlF (ev y)=true) :
  (execOp ev ⟨dst,.build 192 #[(0,x),(1,y)],t,pos,af,gd⟩).run Tryz.prog w=.ok (.value (.agg (fc (zaJ (ev x)) (ev y)))) w:=by
 obtain⟨cs,hc⟩:∃ cs,ev x=.agg cs:=by
  unfold zbJ at h3
  split at h3
  · rename_i g h;exact⟨g,h⟩
  · cases h3
 obtain⟨k,hk⟩:∃ k,ev y=.int .i64 k:=by
  unfold zlF at h5
  split at h5
  · rename_i g h;exact⟨g,h⟩
  · cases h5
 rw[hc,zah] at h4 ⊢
 rw[hk]
 unfold fc
 go_simp
 have hb:=fun zs hz=>zqB zs cs (.int .i64 k) hz h4
 rw[(hb _ rfl).1,(hb _ rfl).2]
 rfl
theorem ztH(ev:Operand->Value)(w:World)(dst x t pos af gd)(h1:zbK (ev x)=true)(h2:(row w (za5 (ev x))).size=34) :
  (execOp ev ⟨dst,.load 192 x,t,pos,af,gd⟩).run Tryz.prog w=.ok (.value (.agg (row w (za5 (ev x))))) w :=
 zck ev w _ 33 _ Tryz.underlying192 rfl (by kernel_rfl) dst x t pos af gd h1 h2
theorem zto(ev:Operand->Value)(w:World)(zs:Array Value)(t:TypeId)(dst x y t' pos af gd)(h0:zs.size=34)(h1:zbK (ev x)=true)(h2:za5 (ev x)=w.heap.size)(h3:zbJ (ev y)=true)(h4:(zaJ (ev y)).size=34)(h5:zaV (zaJ (ev y)).toList=true) :
  (execOp ev ⟨dst,.store 192 x y,t',pos,af,gd⟩).run Tryz.prog (w.alloc (.cells zs t))=.ok .skip (w.alloc (.cells (zaJ (ev y)) t)) :=
 zcA ev w _ 33 (by kernel_rfl) zs t dst x y t' pos af gd h0 h1 h2 h3 h4 h5
theorem zl6(ev:Operand->Value)(w:World)(dst x y t' pos af gd)(h1:zbK (ev x)=true)(h2:Held w (za5 (ev x)) 34)(h3:zbJ (ev y)=true)(h4:(zaJ (ev y)).size=34)(h5:zaV (zaJ (ev y)).toList=true) :
  (execOp ev ⟨dst,.store 192 x y,t',pos,af,gd⟩).run Tryz.prog w=.ok .skip (w.setRow (za5 (ev x)) (zaJ (ev y))) :=
 zbP ev w _ 33 (by kernel_rfl) dst x y t' pos af gd h1 h2 h3 h4 h5
def fcells(x:En)(al gr:Value)(id:Int):Array Value:=fc (x.vals al gr) (.int .i64 id)
def FouR(B:Nat)(w':World)(g:Fu × Int × Int)(r:Ending):Prop :=
 ∃ (al gr:Value),r=.returned (.tuple #[.agg (fcells g.1.1 al gr g.2.1),.int .i64 g.2.2])∧IS w' al g.1.2.1∧GS w' gr g.1.2.2∧(∀ q,al.ownBlock=some q->B<=q)∧(∀ q,gr.ownBlock=some q->B<=q)
def FinR(w0 w w':World)(p:Nat)(sv:Value)(l:List Rw)(fl cd:Int)(g:(Fu × Int × Int) × Int)(r:Ending):Prop :=
 FouR w.heap.size w' g.1 r∧SHs w0 w' p sv l fl cd g.2∧w.grownBy w' (some p)
theorem FinR.put{w0 w W:World}{p:Nat}{sv:Value}{l:List Rw}{fl cd ca c:Int}{x:Fu}{al gr:Value}{id code:Int}(hS:SHs w0 w p sv l fl cd ca)(hH:Held W w.heap.size 34)(h3:SHs w0 W p sv l fl cd c)(hG:w.grownBy W (some p))(hI:IS W al x.2.1)(hg:GS W gr x.2.2)(h1:∀ q,al.ownBlock=some q->w.heap.size<q)(h2:∀ q,gr.ownBlock=some q->w.heap.size<q) :
  FinR w0 w (W.setRow w.heap.size (fcells x.1 al gr id)) p sv l fl cd ((x,id,code),c) (.returned (.tuple #[.agg (row (W.setRow w.heap.size (fcells x.1 al gr id)) w.heap.size),.int .i64 code])):=by
 have hb:Below w.heap.size W (W.setRow w.heap.size (fcells x.1 al gr id)):=below_setRow (Below.refl _ _) (Nat.le_refl _) _
 have hk:∀ j,w.heap.size+1<=j->j<W.heap.size->(W.setRow w.heap.size (fcells x.1 al gr id)).heap[j]?=W.heap[j]?:=fun j h1 _=>zaN _ _ _ _ (by omega)
 exact⟨⟨al,gr,congrArg (fun z=>Ending.returned (.tuple #[.agg z,.int .i64 code])) (zad hH _),hI.keep (w.heap.size+1) (fun y hy=>h1 y hy) (by simp) hk,hg.keep (w.heap.size+1) (fun y hy=>h2 y hy) (by simp) hk,fun q hq=>Nat.le_of_lt (h1 q hq),fun q hq=>Nat.le_of_lt (h2 q hq)⟩,h3.belowB hb hS.pl (fun h b hb=>zez hS.r h b hb),zaG hG hb⟩
def flit:Array Value:=(zlit 0 ⟨#[]⟩).push (.int .i64 0)
theorem zpC:flit=fcells zF0.1 (.slice none 0 0) (.slice none 0 0) 0:=by unfold flit fcells fc;rw[zbA];rfl
theorem FinR.put0{w0 w W:World}{p:Nat}{sv:Value}{l:List Rw}{fl cd ca c:Int}{code:Int}(hS:SHs w0 w p sv l fl cd ca)(hH:Held W w.heap.size 34)(h3:SHs w0 W p sv l fl cd c)(hG:w.grownBy W (some p)) :
  FinR w0 w (W.setRow w.heap.size flit) p sv l fl cd ((zF0,0,code),c) (.returned (.tuple #[.agg (row (W.setRow w.heap.size flit) w.heap.size),.int .i64 code])):=by
 rw[zpC]
 exact FinR.put (x:=zF0) hS hH h3 hG (IS.nil _) (GS.nil _) (fun _ h=>by cases h) (fun _ h=>by cases h)
attribute [local go_sem ↓] zaX za0 zaD ztH zto zl6 zs1
attribute [local go_sem] zaA zas zan zaM zaO zah zat zkI zai zau zaf zak zaq zab zqv zap zaj zaE zaC zao zam zax zaL zay zaz
attribute [local go_sem ↓] zdf
end
end Go.Proofs.YtkafnmbldpofdaaGreatDoor
