/- Catalogs. -/
import Derived.Test.YtefcmdmfgdcpmaaGreatDoorSrt
import Derived.Test.YtefcmdmfgdcpmaaGreatDoorNo
set_option maxRecDepth 8000
set_option maxHeartbeats 16000000
namespace Go.Proofs.YtefcmdmfgdcpmaaGreatDoor
def zdb(x y:Rw):Bool:=decide (y.1<x.1) || (decide (y.1=x.1)&&ltB (kyR y) (kyR x))
def zeu(x:Rw)(out:List Rw):List Rw:=out.takeWhile (zdb x)++x::out.dropWhile (zdb x)
def znF(c:Ch)(x:Rw):Bool:=decide (x.1=c.2.1)&&decide (x.2.1=c.2.2.1)
def zba(c:Ch)(out:List Rw):List Rw:=out.filter fun x=>!znF c x
def apS(out:List Rw)(c:Ch):List Rw:=if c.1=0 then zeu (c.2.1,c.2.2.1,c.2.2.2.1) (zba c out) else zba c out
def zcl(rows:List Rw):List Rw:=rows.foldl (fun o x=>zeu x o) []
def apl(rows:List Rw)(l:List Ch):List Rw:=l.foldl apS (zcl rows)
theorem zmg(x:Rw)(out:List Rw):zeu x out=(out.take (out.takeWhile (zdb x)).length++[x])++out.drop (out.takeWhile (zdb x)).length:=by
 unfold zeu;have e:out.takeWhile (zdb x)++out.dropWhile (zdb x)=out:=List.takeWhile_append_dropWhile
 have h1:out.take (out.takeWhile (zdb x)).length=out.takeWhile (zdb x):=by
  conv=>lhs;rw[<-e]
  rw[List.take_left'];rw[e]
 have h2:out.drop (out.takeWhile (zdb x)).length=out.dropWhile (zdb x):=by
  conv=>lhs;rw[<-e]
  rw[List.drop_left'];rw[e]
 rw[h1,h2,List.append_assoc];rfl
theorem zbz(x:Rw)(out:List Rw):(zeu x out).length=out.length+1:=by
 have e:(out.takeWhile (zdb x)++out.dropWhile (zdb x)).length=out.length:=by rw[List.takeWhile_append_dropWhile]
 unfold zeu;rw[List.length_append] at e ⊢;rw[List.length_cons];omega
theorem zir(l:List Rw)(x:Rw):zcl (l++[x])=zeu x (zcl l):=by
 unfold zcl;rw[List.foldl_append];rfl
theorem zf1(l:List Rw):(zcl l).length=l.length:=by
 have:∀ (l o:List Rw),(l.foldl (fun o x=>zeu x o) o).length=o.length+l.length:=by
  intro l
  induction l with
  | nil=>intro o;rfl
  | cons x l ih=>intro o;rw[List.foldl_cons,ih,zbz,List.length_cons];omega
 unfold zcl;rw[this];simp
theorem znT(rows:List Rw)(l:List Ch)(c:Ch):apl rows (l++[c])=apS (apl rows l) c:=by
 unfold apl;rw[List.foldl_append];rfl
theorem zf2(c:Ch)(out:List Rw):(zba c out).length<=out.length:=List.length_filter_le _ _
theorem zqR(out:List Rw)(c:Ch):(apS out c).length<=out.length+1:=by
 have h:=zf2 c out;unfold apS;split
 · rw[zbz];omega
 · omega
theorem ziu(rows:List Rw)(l:List Ch):(apl rows l).length<=rows.length+l.length:=by
 have:∀ (l:List Ch) (o:List Rw),(l.foldl apS o).length<=o.length+l.length:=by
  intro l
  induction l with
  | nil=>intro o;exact Nat.le_refl _
  | cons x l ih =>
    intro o;have h1:=ih (apS o x);have h2:=zqR o x;rw[List.foldl_cons,List.length_cons];omega
 unfold apl;have h:=this l (zcl rows);rw[zf1] at h;exact h
theorem zit{c:Ch}{D:List Rw}{j:Nat}(h:j<D.length):zba c (D.take (j+1))=if znF c D[j]=true then zba c (D.take j) else zba c (D.take j)++[D[j]]:=by
 unfold zba;rw[List.take_succ_eq_append_getElem h,List.filter_append];by_cases e:znF c D[j]=true
 · rw[if_pos e,List.filter_cons_of_neg (by rw[e];simp),List.filter_nil,List.append_nil]
 · rw[if_neg e,List.filter_cons_of_pos (by simpa using e),List.filter_nil]
section
open Go.RowKit
set_option linter.unusedSimpArgs false
set_option linter.unusedVariables false
theorem zt6(x:Rw)(D:List Rw)(i:Nat)(h:i<D.length):(i<(D.takeWhile (zdb x)).length->zdb x D[i]=true)∧(i=(D.takeWhile (zdb x)).length->zdb x D[i]=false):=zu5 (zdb x) D i h
theorem zm5(g vc base:Nat)(D:List Rw)(x:Rw)(w:World)(hO:w.ownsRow base 35 3 (.slice (some ⟨g,0,none⟩) D.length vc) D.length (rv D))(hn:D.length<=100000) :
  Calls Tryz.prog 67 #[.slice (some ⟨g,0,none⟩) D.length vc,.agg #[.int .i64 x.1,.string x.2.1,.string x.2.2]] w fun r w'=>∃ g' c',r=.returned (.slice (some ⟨g',0,none⟩) (zeu x D).length c')∧w'.ownsRow w.heap.size 35 3 (.slice (some ⟨g',0,none⟩) (zeu x D).length c') (zeu x D).length (rv (zeu x D))∧Below w.heap.size w w':=by
 have hcap:=zoU hO;have hgl:g<w.heap.size:=(zam hO g rfl).2;have N0:(w.alloc (.cells #[.int .i64 x.1,.string x.2.1,.string x.2.2] 35)).cell? ⟨w.heap.size,0,none⟩=some (.int .i64 x.1):=zah (zai w _ 35 (0,0)) 0 _ rfl;have N1:(w.alloc (.cells #[.int .i64 x.1,.string x.2.1,.string x.2.2] 35)).cell? ⟨w.heap.size,1,none⟩=some (.string x.2.1):=zah (zai w _ 35 (0,0)) 1 _ rfl;have N2:(w.alloc (.cells #[.int .i64 x.1,.string x.2.1,.string x.2.2] 35)).cell? ⟨w.heap.size,2,none⟩=some (.string x.2.2):=zah (zai w _ 35 (0,0)) 2 _ rfl;have hO1:(w.alloc (.cells #[.int .i64 x.1,.string x.2.1,.string x.2.2] 35)).ownsRow base 35 3 (.slice (some ⟨g,0,none⟩) D.length vc) D.length (rv D):=zaD hO (fun y hy=>(zab w _).block y (zam hO y hy).2);have HO1:=lh hO1;have HB1:=lh (zab w (.cells #[.int .i64 x.1,.string x.2.1,.string x.2.2] 35))
 have hTc:∀ j (h:j<D.length),(w.alloc (.cells #[.int .i64 x.1,.string x.2.1,.string x.2.2] 35)).cell? ⟨g,j*3,none⟩=some (.int .i64 D[j].1)∧(w.alloc (.cells #[.int .i64 x.1,.string x.2.1,.string x.2.2] 35)).cell? ⟨g,j*3+1,none⟩=some (.string D[j].2.1):=fun j h=>by
  have:=((zdj (by omega) (zbq hO1)):RwS _ _ D);obtain⟨a',c',e,-,hp⟩:=this;obtain⟨b',o',rfl,-,hq⟩:=hp (by omega);cases e
  have q:=hq j h;rw[Nat.zero_add] at q;exact⟨q.1,q.2.1⟩
 have HTC:=lh hTc;clear hO1 hTc hO;go_enter Tryz.func67,Tryz.ntmps67
 go_wp2_with fail
 generalize hW:w.alloc (.cells #[.int .i64 x.1,.string x.2.1,.string x.2.2] 35)=W1 at *;clear hW;go_loopw [5] (fun j wr2=>∃ (i q:Nat),i<=(D.takeWhile (zdb x)).length∧j=.int .i64 i∧wr2=W1.drewN q) (fun j _=>D.length - (intOf j).toNat)
 case atStart=>exact⟨0,0,Nat.zero_le _,rfl,rfl⟩
 case round =>
  obtain⟨i,q,hi,rfl,rfl⟩:=hrel;have htl:=zwc (zdb x) D;have i1:(0:Int)<=(i:Int):=by omega
  by_cases hiT:i<D.length
  · have i2:(i:Int)<(D.length:Int):=by omega
    have i3:i<=D.length:=by omega
    obtain⟨c0,c1⟩:=HTC.out i hiT;have hat:=zt6 x D i hiT;unfold zdb at hat;have t4:=zgM D[i].2.1 x.2.1;by_cases e1:D[i].1<x.1
    · have t1:decide (D[i].1<x.1)=true:=decide_eq_true e1
      have HIW:Hid (i+1<=(D.takeWhile (zdb x)).length):=lh (by
       rcases Nat.lt_or_ge i (D.takeWhile (zdb x)).length with h|h
       · exact h
       · have h2:=hat.2 (by unfold zdb at *;omega);rw[t1] at h2;simp at h2)
      clear hat t4 e1;go_wp2_with fail
      go_quiet (fail)
      go_wp2_with fail
      go_roundw
      case rel=>exact⟨i+1,_,HIW.out,by go_num,rfl⟩
      case measure=>simp [intOf];omega
    have t1:decide (D[i].1<x.1)=false:=decide_eq_false e1;by_cases e5:D[i].1=x.1∧ltB (Ds.bl D[i].2.1) (Ds.bl x.2.1)=true
    · obtain⟨e2,e4⟩:=e5;have t2:(D[i].1==x.1)=true:=beq_iff_eq.2 e2;rw[e4] at t4
      have HIW:Hid (i+1<=(D.takeWhile (zdb x)).length):=lh (by
       rcases Nat.lt_or_ge i (D.takeWhile (zdb x)).length with h|h
       · exact h
       · have h2:=hat.2 (by unfold zdb at *;omega);rw[decide_eq_true e2,show ltB (kyR D[i]) (kyR x)=true from e4] at h2;simp at h2)
      clear hat e1 e2 e4;go_wp2_with fail
      go_quiet (fail)
      go_wp2_with fail
      go_roundw
      case rel=>exact⟨i+1,_,HIW.out,by go_num,rfl⟩
      case measure=>simp [intOf];omega
    have HI:Hid (i=(D.takeWhile (zdb x)).length):=lh (by
     rcases Nat.lt_or_ge i (D.takeWhile (zdb x)).length with h|h
     · have h2:=hat.1 (by unfold zdb at *;exact h);rw[t1,Bool.false_or,Bool.and_eq_true,decide_eq_true_eq] at h2;exact absurd h2 e5
     · omega)
    by_cases e2:D[i].1=x.1
    have t2:(D[i].1==x.1)=true:=beq_iff_eq.2 e2
    have e4:ltB (Ds.bl D[i].2.1) (Ds.bl x.2.1)=false:=by
     cases h:ltB (Ds.bl D[i].2.1) (Ds.bl x.2.1)
     · rfl
     · exact absurd ⟨e2,h⟩ e5
    rw[e4] at t4;clear hat e1 e2 e4 e5;rotate_left;have t2:(D[i].1==x.1)=false:=beq_eq_false_iff_ne.2 e2;clear hat e1 e2 t4 e5
    all_goals
     go_wp2_with fail
     go_quiet (fail)
     go_upto_region 4 with fail
     generalize hW2:World.drewN (World.drewN W1 _) _=W2;have hh2:W2.heap=W1.heap:=by rw[<-hW2];rfl
     have M0:W2.cell? ⟨w.heap.size,0,none⟩=some (.int .i64 x.1):=by rw[<-hW2];exact N0
     have M1:W2.cell? ⟨w.heap.size,1,none⟩=some (.string x.2.1):=by rw[<-hW2];exact N1
     have M2:W2.cell? ⟨w.heap.size,2,none⟩=some (.string x.2.2):=by rw[<-hW2];exact N2
     have HO2:=lh (zaD HO1.out (fun x _=>by rw[hh2]):W2.ownsRow _ _ _ _ _ _);have B2:Below w.heap.size w W2:=by rw[<-hW2];exact (HB1.out.trans (bdr _ _ _)).trans (bdr _ _ _)
     have z2:g<W2.heap.size:=(zam HO2.out g rfl).2;have HFin:Hid ([]++rv (D.take i)++rv [(x.1,x.2.1,x.2.2)]++rv (D.drop i)=rv (zeu x D)):=lh (by rw[zmg,<-HI.out,zeQ,zeQ];simp);have HB2:=lh B2;have zB:=B2.size;clear hW2 hh2 N0 N1 N2 HO1 HB1 B2;refine wp_region_held_drew (S:=fun w'=>Below W2.heap.size W2 w'∧w'.cell? ⟨w.heap.size,0,none⟩=some (.int .i64 x.1)∧w'.cell? ⟨w.heap.size,1,none⟩=some (.string x.2.1)∧w'.cell? ⟨w.heap.size,2,none⟩=some (.string x.2.2)) (by kernel_rfl) ?_ (fun hHeld=>?_)
     · exact⟨Below.drew (Below.refl _ _),M0,M1,M2⟩
     (refine rgy (i:=1) (some 43) ?_;(try simp only[Act.put,pz]))
     (refine rgy (i:=2) (some 44) ?_;(try simp only[Act.put,pz]))
     refine zqn (i:=3) (some 45) (v:=.slice (some ⟨g,0,none⟩) i vc) rfl rfl (by kernel_rfl) (by kernel_rfl) (by kernel_rfl) (fun _ _ _ h=>h) (by kernel_rfl) (fun w hSw=>?_) (by assumption) ?_
     · have sl:=zqz (w:=w) (g:=g) i3 hcap.1;go_simp
     (try simp only[Act.put,List.setIfInBounds_toArray,List.set_cons_zero,List.set_cons_succ])
     (refine rgy (i:=5) (some 47) ?_;(try simp only[Act.put,pz]))
     (refine rgy (i:=8) (some 50) ?_;(try simp only[Act.put,pz]))
     (refine rgy (i:=9) (some 51) ?_;(try simp only[Act.put,pz]))
     refine zqn (i:=10) (some 52) (v:=.slice (some ⟨g,zk6 vc i,none⟩) (D.length - i) (vc - i)) rfl rfl (by kernel_rfl) (by kernel_rfl) (by kernel_rfl) (fun _ _ _ h=>h) (by kernel_rfl) (fun w hSw=>?_) (by assumption) ?_
     · have sl:=zqA (w:=w) (g:=g) (c:=vc) i3;go_simp
     (try simp only[Act.put,List.setIfInBounds_toArray,List.set_cons_zero,List.set_cons_succ])
     refine wpAnyH_ready (rs:=[0,6]) (by kernel_rfl) (by simp) ?_
     refine AllReadyH.cons (o:=_) rfl (fun K hK=>?_) (AllReadyH.cons (o:=_) rfl (fun K hK=>?_) AllReadyH.nil)
     · go_simp
       have hbA:Below W2.heap.size W2 (W2.drew.alloc (.cells #[] 35)):=(Below.drew (Below.refl _ _)).alloc (by simp) _;refine hK.out _ _ ⟨hbA,zac hbA M0,zac hbA M1,zac hbA M2⟩ (fun hHeld=>?_)
       (clear hK K;(try simp only[Act.put,pz]))
       refine wpAnyH_ready (rs:=[4,6]) (by kernel_rfl) (by simp) ?_
       refine AllReadyH.cons (o:=_) rfl (fun K hK=>?_) (AllReadyH.cons (o:=_) rfl (fun K hK=>?_) AllReadyH.nil)
       · refine za9 _ rfl (.tmp 42) (.tmp 45) 25 35 _ _ 3 40 (by rfl) Tryz.underlying25 zgi zcR zcS zcT rfl (by decide) W2.heap.size (.slice (some ⟨W2.heap.size,0,none⟩) 0 0) (.slice (some ⟨g,0,none⟩) i vc) 0 i [] (rv (D.take i)) (by simp [Act.eval]) (zcw (w:=W2.drew) rfl (Nat.le_refl _)) (by simp [Act.eval]) ((zkB HO2.out rfl i3).below hbA) (zbP _) (by unfold maxLen;omega) (by omega) (by first|(simp;done)|(simp;omega)) ?_
         intro a5 c5 w5 hown5 hg5 _;have hb5:Below W2.heap.size W2 w5:=hbA.grown hg5 (by first|(simp;done)|(simp;omega)) (fun q hq=>by have h2:W2.heap.size=q:=(by simpa [Value.ownBlock] using hq);omega);refine hK.out _ _ ⟨hb5,zac hb5 M0,zac hb5 M1,zac hb5 M2⟩ (fun hHeld=>?_)
         (clear hK K;(try simp only[Act.put,pz]))
         refine rgb (i:=6) (by kernel_rfl) rfl (fun K hK=>?_)
         go_simp
         have hb6:Below W2.heap.size W2 (w5.alloc (.cells #[.int .i64 x.1,.string x.2.1,.string x.2.2] 35)):=hb5.alloc hb5.size _;refine hK.out _ _ ⟨hb6,zac hb6 M0,zac hb6 M1,zac hb6 M2⟩ (fun hHeld=>?_)
         (clear hK K;(try simp only[Act.put,pz]))
         have own6:(w5.alloc (.cells #[.int .i64 x.1,.string x.2.1,.string x.2.2] 35)).ownsRow _ _ _ _ _ _:=zaD hown5 (fun x hx=>(zab w5 _).block x (zam hown5 x hx).2);have csx:=zdf w5 (x.1,x.2.1,x.2.2) 35 _ rfl;refine rgb (i:=7) (by kernel_rfl) rfl (fun K hK=>?_)
         refine za9 _ rfl (.tmp 46) (.tmp 48) 25 35 _ _ 3 40 (by rfl) Tryz.underlying25 zgi zcR zcS zcT rfl (by decide) W2.heap.size (.slice a5 (0+i) c5) (.slice (some ⟨w5.heap.size,0,none⟩) 1 1) (0+i) 1 _ (rv [(x.1,x.2.1,x.2.2)]) (by simp [Act.eval]) own6 (by simp [Act.eval]) csx (zbP _) (by unfold maxLen;omega) (by omega) hb6.size ?_
         intro a7 c7 w7 hown7 hg7 _;have hb7:Below W2.heap.size W2 w7:=hb6.grown hg7 hb6.size (fun q hq=>(zam own6 q hq).1);refine hK.out _ _ ⟨hb7,zac hb7 M0,zac hb7 M1,zac hb7 M2⟩ (fun hHeld=>?_)
         (clear hK K;(try simp only[Act.put,pz]))
         refine rgb (i:=11) (by kernel_rfl) rfl (fun K hK=>?_)
         refine za9 _ rfl (.tmp 49) (.tmp 52) 25 35 _ _ 3 40 (by rfl) Tryz.underlying25 zgi zcR zcS zcT rfl (by decide) W2.heap.size (.slice a7 (0+i+1) c7) (.slice (some ⟨g,zk6 vc i,none⟩) (D.length - i) (vc - i)) (0+i+1) (D.length - i) _ (rv (D.drop i)) (by simp [Act.eval]) hown7 (by simp [Act.eval]) ((zk0 HO2.out rfl hcap.1).below hb7) (zbP _) (by unfold maxLen;omega) (by omega) hb7.size ?_
         intro a8 c8 w8 hown8 hg8 _;have hb8:Below W2.heap.size W2 w8:=hb7.grown hg8 hb7.size (fun q hq=>(zam hown7 q hq).1);rw[HFin.out] at hown8;generalize hLL:0+i+1+(D.length - i)=L at hown8 ⊢;obtain rfl:L=(zeu x D).length:=by rw[zbz];omega
         obtain⟨g8,rfl,-,-⟩:=zbO hown8 (by rw[zbz];omega);refine hK.out _ _ ⟨hb8,zac hb8 M0,zac hb8 M1,zac hb8 M2⟩ (fun hHeld=>?_)
         (clear hK K;(try simp only[Act.put,pz]))
         (refine rgy (i:=12) (some 4) ?_;(try simp only[Act.put,pz]))
         refine wpAnyH_done (by kernel_rfl) ?_ _
         have HN8:=lh hown8;have HB8:=lh hb8;clear hown7 hown8 hg7 hg8 hHeld hb7 hb8;go_wp2_with fail
         repeat (rename_i oq dq hq;obtain rfl:=Option.some.inj hq;clear hq)
         go_ret
         exact⟨g8,c8,rfl,zdy HN8.out zB,HB2.out.trans (HB8.out.mono zB)⟩
       · go_simp
         have hbB:Below W2.heap.size W2 ((W2.drew.alloc (.cells #[] 35)).alloc (.cells #[.int .i64 x.1,.string x.2.1,.string x.2.2] 35)):=hbA.alloc (by simp) _;refine hK.out _ _ ⟨hbB,zac hbB M0,zac hbB M1,zac hbB M2⟩ (fun hHeld=>?_)
         (clear hK K;(try simp only[Act.put,pz]))
         refine rgb (i:=4) (by kernel_rfl) rfl (fun K hK=>?_)
         refine za9 _ rfl (.tmp 42) (.tmp 45) 25 35 _ _ 3 40 (by rfl) Tryz.underlying25 zgi zcR zcS zcT rfl (by decide) W2.heap.size (.slice (some ⟨W2.heap.size,0,none⟩) 0 0) (.slice (some ⟨g,0,none⟩) i vc) 0 i [] (rv (D.take i)) (by simp [Act.eval]) (zaD (zcw (w:=W2.drew) rfl (Nat.le_refl _)) (fun x hx=>(zab (W2.drew.alloc (.cells #[] 35)) _).block x (by have hx2:W2.heap.size=x:=(by simpa [Value.ownBlock] using hx);simp [<-hx2]))) (by simp [Act.eval]) ((zkB HO2.out rfl i3).below hbB) (zbP _) (by unfold maxLen;omega) (by omega) (by first|(simp;done)|(simp;omega)) ?_
         intro a5 c5 w5 hown5 hg5 _;have hb5:Below W2.heap.size W2 w5:=hbB.grown hg5 (by first|(simp;done)|(simp;omega)) (fun q hq=>by have h2:W2.heap.size=q:=(by simpa [Value.ownBlock] using hq);omega);have csx:=(zdf (W2.drew.alloc (.cells #[] 35)) (x.1,x.2.1,x.2.2) 35 (W2.heap.size+1) (by simp)).grown hg5 (by intro e;have e2:W2.heap.size+1=W2.heap.size:=Option.some.inj e;omega) (by first|(simp;done)|(simp;omega));refine hK.out _ _ ⟨hb5,zac hb5 M0,zac hb5 M1,zac hb5 M2⟩ (fun hHeld=>?_)
         (clear hK K;(try simp only[Act.put,pz]))
         refine rgb (i:=7) (by kernel_rfl) rfl (fun K hK=>?_)
         refine za9 _ rfl (.tmp 46) (.tmp 48) 25 35 _ _ 3 40 (by rfl) Tryz.underlying25 zgi zcR zcS zcT rfl (by decide) W2.heap.size (.slice a5 (0+i) c5) (.slice (some ⟨W2.heap.size+1,0,none⟩) 1 1) (0+i) 1 _ (rv [(x.1,x.2.1,x.2.2)]) (by simp [Act.eval]) hown5 (by simp [Act.eval]) csx (zbP _) (by unfold maxLen;omega) (by omega) hb5.size ?_
         intro a7 c7 w7 hown7 hg7 _;have hb7:Below W2.heap.size W2 w7:=hb5.grown hg7 hb5.size (fun q hq=>(zam hown5 q hq).1);refine hK.out _ _ ⟨hb7,zac hb7 M0,zac hb7 M1,zac hb7 M2⟩ (fun hHeld=>?_)
         (clear hK K;(try simp only[Act.put,pz]))
         refine rgb (i:=11) (by kernel_rfl) rfl (fun K hK=>?_)
         refine za9 _ rfl (.tmp 49) (.tmp 52) 25 35 _ _ 3 40 (by rfl) Tryz.underlying25 zgi zcR zcS zcT rfl (by decide) W2.heap.size (.slice a7 (0+i+1) c7) (.slice (some ⟨g,zk6 vc i,none⟩) (D.length - i) (vc - i)) (0+i+1) (D.length - i) _ (rv (D.drop i)) (by simp [Act.eval]) hown7 (by simp [Act.eval]) ((zk0 HO2.out rfl hcap.1).below hb7) (zbP _) (by unfold maxLen;omega) (by omega) hb7.size ?_
         intro a8 c8 w8 hown8 hg8 _;have hb8:Below W2.heap.size W2 w8:=hb7.grown hg8 hb7.size (fun q hq=>(zam hown7 q hq).1);rw[HFin.out] at hown8;generalize hLL:0+i+1+(D.length - i)=L at hown8 ⊢;obtain rfl:L=(zeu x D).length:=by rw[zbz];omega
         obtain⟨g8,rfl,-,-⟩:=zbO hown8 (by rw[zbz];omega);refine hK.out _ _ ⟨hb8,zac hb8 M0,zac hb8 M1,zac hb8 M2⟩ (fun hHeld=>?_)
         (clear hK K;(try simp only[Act.put,pz]))
         (refine rgy (i:=12) (some 4) ?_;(try simp only[Act.put,pz]))
         refine wpAnyH_done (by kernel_rfl) ?_ _
         have HN8:=lh hown8;have HB8:=lh hb8;clear hown7 hown8 hg7 hg8 hHeld hb7 hb8;go_wp2_with fail
         repeat (rename_i oq dq hq;obtain rfl:=Option.some.inj hq;clear hq)
         go_ret
         exact⟨g8,c8,rfl,zdy HN8.out zB,HB2.out.trans (HB8.out.mono zB)⟩
     · go_simp
       have hbA:Below W2.heap.size W2 (W2.drew.alloc (.cells #[.int .i64 x.1,.string x.2.1,.string x.2.2] 35)):=(Below.drew (Below.refl _ _)).alloc (by simp) _;refine hK.out _ _ ⟨hbA,zac hbA M0,zac hbA M1,zac hbA M2⟩ (fun hHeld=>?_)
       (clear hK K;(try simp only[Act.put,pz]))
       refine rgb (i:=0) (by kernel_rfl) rfl (fun K hK=>?_)
       go_simp
       have hbB:Below W2.heap.size W2 ((W2.drew.alloc (.cells #[.int .i64 x.1,.string x.2.1,.string x.2.2] 35)).alloc (.cells #[] 35)):=hbA.alloc (by simp) _;refine hK.out _ _ ⟨hbB,zac hbB M0,zac hbB M1,zac hbB M2⟩ (fun hHeld=>?_)
       (clear hK K;(try simp only[Act.put,pz]))
       refine rgb (i:=4) (by kernel_rfl) rfl (fun K hK=>?_)
       refine za9 _ rfl (.tmp 42) (.tmp 45) 25 35 _ _ 3 40 (by rfl) Tryz.underlying25 zgi zcR zcS zcT rfl (by decide) W2.heap.size (.slice (some ⟨W2.heap.size+1,0,none⟩) 0 0) (.slice (some ⟨g,0,none⟩) i vc) 0 i [] (rv (D.take i)) (by simp [Act.eval]) (zcw (w:=(W2.drew.alloc (.cells #[.int .i64 x.1,.string x.2.1,.string x.2.2] 35))) (by simp) (by omega)) (by simp [Act.eval]) ((zkB HO2.out rfl i3).below hbB) (zbP _) (by unfold maxLen;omega) (by omega) (by first|(simp;done)|(simp;omega)) ?_
       intro a5 c5 w5 hown5 hg5 _;have hb5:Below W2.heap.size W2 w5:=hbB.grown hg5 (by first|(simp;done)|(simp;omega)) (fun q hq=>by have h2:W2.heap.size+1=q:=(by simpa [Value.ownBlock] using hq);omega);have csx:=((zdf W2.drew (x.1,x.2.1,x.2.2) 35 W2.heap.size rfl).below (zab _ (.cells #[] 35))).grown hg5 (by intro e;have e2:W2.heap.size=W2.heap.size+1:=Option.some.inj e;omega) (by first|(simp;done)|(simp;omega));refine hK.out _ _ ⟨hb5,zac hb5 M0,zac hb5 M1,zac hb5 M2⟩ (fun hHeld=>?_)
       (clear hK K;(try simp only[Act.put,pz]))
       refine rgb (i:=7) (by kernel_rfl) rfl (fun K hK=>?_)
       refine za9 _ rfl (.tmp 46) (.tmp 48) 25 35 _ _ 3 40 (by rfl) Tryz.underlying25 zgi zcR zcS zcT rfl (by decide) W2.heap.size (.slice a5 (0+i) c5) (.slice (some ⟨W2.heap.size,0,none⟩) 1 1) (0+i) 1 _ (rv [(x.1,x.2.1,x.2.2)]) (by simp [Act.eval]) hown5 (by simp [Act.eval]) csx (zbP _) (by unfold maxLen;omega) (by omega) hb5.size ?_
       intro a7 c7 w7 hown7 hg7 _;have hb7:Below W2.heap.size W2 w7:=hb5.grown hg7 hb5.size (fun q hq=>(zam hown5 q hq).1);refine hK.out _ _ ⟨hb7,zac hb7 M0,zac hb7 M1,zac hb7 M2⟩ (fun hHeld=>?_)
       (clear hK K;(try simp only[Act.put,pz]))
       refine rgb (i:=11) (by kernel_rfl) rfl (fun K hK=>?_)
       refine za9 _ rfl (.tmp 49) (.tmp 52) 25 35 _ _ 3 40 (by rfl) Tryz.underlying25 zgi zcR zcS zcT rfl (by decide) W2.heap.size (.slice a7 (0+i+1) c7) (.slice (some ⟨g,zk6 vc i,none⟩) (D.length - i) (vc - i)) (0+i+1) (D.length - i) _ (rv (D.drop i)) (by simp [Act.eval]) hown7 (by simp [Act.eval]) ((zk0 HO2.out rfl hcap.1).below hb7) (zbP _) (by unfold maxLen;omega) (by omega) hb7.size ?_
       intro a8 c8 w8 hown8 hg8 _;have hb8:Below W2.heap.size W2 w8:=hb7.grown hg8 hb7.size (fun q hq=>(zam hown7 q hq).1);rw[HFin.out] at hown8;generalize hLL:0+i+1+(D.length - i)=L at hown8 ⊢;obtain rfl:L=(zeu x D).length:=by rw[zbz];omega
       obtain⟨g8,rfl,-,-⟩:=zbO hown8 (by rw[zbz];omega);refine hK.out _ _ ⟨hb8,zac hb8 M0,zac hb8 M1,zac hb8 M2⟩ (fun hHeld=>?_)
       (clear hK K;(try simp only[Act.put,pz]))
       (refine rgy (i:=12) (some 4) ?_;(try simp only[Act.put,pz]))
       refine wpAnyH_done (by kernel_rfl) ?_ _
       have HN8:=lh hown8;have HB8:=lh hb8;clear hown7 hown8 hg7 hg8 hHeld hb7 hb8;go_wp2_with fail
       repeat (rename_i oq dq hq;obtain rfl:=Option.some.inj hq;clear hq)
       go_ret
       exact⟨g8,c8,rfl,zdy HN8.out zB,HB2.out.trans (HB8.out.mono zB)⟩
  · have HI:Hid (i=(D.takeWhile (zdb x)).length):=lh (by omega);have i3:i<=D.length:=by omega
    have i4:¬ (i:Int)<(D.length:Int):=by omega
    go_wp2_with fail
    go_quiet (fail)
    go_upto_region 4 with fail
    generalize hW2:World.drewN (World.drewN W1 _) _=W2;have hh2:W2.heap=W1.heap:=by rw[<-hW2];rfl
    have M0:W2.cell? ⟨w.heap.size,0,none⟩=some (.int .i64 x.1):=by rw[<-hW2];exact N0
    have M1:W2.cell? ⟨w.heap.size,1,none⟩=some (.string x.2.1):=by rw[<-hW2];exact N1
    have M2:W2.cell? ⟨w.heap.size,2,none⟩=some (.string x.2.2):=by rw[<-hW2];exact N2
    have HO2:=lh (zaD HO1.out (fun x _=>by rw[hh2]):W2.ownsRow _ _ _ _ _ _);have B2:Below w.heap.size w W2:=by rw[<-hW2];exact (HB1.out.trans (bdr _ _ _)).trans (bdr _ _ _)
    have z2:g<W2.heap.size:=(zam HO2.out g rfl).2;have HFin:Hid ([]++rv (D.take i)++rv [(x.1,x.2.1,x.2.2)]++rv (D.drop i)=rv (zeu x D)):=lh (by rw[zmg,<-HI.out,zeQ,zeQ];simp);have HB2:=lh B2;have zB:=B2.size;clear hW2 hh2 N0 N1 N2 HO1 HB1 B2;refine wp_region_held_drew (S:=fun w'=>Below W2.heap.size W2 w'∧w'.cell? ⟨w.heap.size,0,none⟩=some (.int .i64 x.1)∧w'.cell? ⟨w.heap.size,1,none⟩=some (.string x.2.1)∧w'.cell? ⟨w.heap.size,2,none⟩=some (.string x.2.2)) (by kernel_rfl) ?_ (fun hHeld=>?_)
    · exact⟨Below.drew (Below.refl _ _),M0,M1,M2⟩
    (refine rgy (i:=1) (some 43) ?_;(try simp only[Act.put,pz]))
    (refine rgy (i:=2) (some 44) ?_;(try simp only[Act.put,pz]))
    refine zqn (i:=3) (some 45) (v:=.slice (some ⟨g,0,none⟩) i vc) rfl rfl (by kernel_rfl) (by kernel_rfl) (by kernel_rfl) (fun _ _ _ h=>h) (by kernel_rfl) (fun w hSw=>?_) (by assumption) ?_
    · have sl:=zqz (w:=w) (g:=g) i3 hcap.1;go_simp
    (try simp only[Act.put,List.setIfInBounds_toArray,List.set_cons_zero,List.set_cons_succ])
    (refine rgy (i:=5) (some 47) ?_;(try simp only[Act.put,pz]))
    (refine rgy (i:=8) (some 50) ?_;(try simp only[Act.put,pz]))
    (refine rgy (i:=9) (some 51) ?_;(try simp only[Act.put,pz]))
    refine zqn (i:=10) (some 52) (v:=.slice (some ⟨g,zk6 vc i,none⟩) (D.length - i) (vc - i)) rfl rfl (by kernel_rfl) (by kernel_rfl) (by kernel_rfl) (fun _ _ _ h=>h) (by kernel_rfl) (fun w hSw=>?_) (by assumption) ?_
    · have sl:=zqA (w:=w) (g:=g) (c:=vc) i3;go_simp
    (try simp only[Act.put,List.setIfInBounds_toArray,List.set_cons_zero,List.set_cons_succ])
    refine wpAnyH_ready (rs:=[0,6]) (by kernel_rfl) (by simp) ?_
    refine AllReadyH.cons (o:=_) rfl (fun K hK=>?_) (AllReadyH.cons (o:=_) rfl (fun K hK=>?_) AllReadyH.nil)
    · go_simp
      have hbA:Below W2.heap.size W2 (W2.drew.alloc (.cells #[] 35)):=(Below.drew (Below.refl _ _)).alloc (by simp) _;refine hK.out _ _ ⟨hbA,zac hbA M0,zac hbA M1,zac hbA M2⟩ (fun hHeld=>?_)
      (clear hK K;(try simp only[Act.put,pz]))
      refine wpAnyH_ready (rs:=[4,6]) (by kernel_rfl) (by simp) ?_
      refine AllReadyH.cons (o:=_) rfl (fun K hK=>?_) (AllReadyH.cons (o:=_) rfl (fun K hK=>?_) AllReadyH.nil)
      · refine za9 _ rfl (.tmp 42) (.tmp 45) 25 35 _ _ 3 40 (by rfl) Tryz.underlying25 zgi zcR zcS zcT rfl (by decide) W2.heap.size (.slice (some ⟨W2.heap.size,0,none⟩) 0 0) (.slice (some ⟨g,0,none⟩) i vc) 0 i [] (rv (D.take i)) (by simp [Act.eval]) (zcw (w:=W2.drew) rfl (Nat.le_refl _)) (by simp [Act.eval]) ((zkB HO2.out rfl i3).below hbA) (zbP _) (by unfold maxLen;omega) (by omega) (by first|(simp;done)|(simp;omega)) ?_
        intro a5 c5 w5 hown5 hg5 _;have hb5:Below W2.heap.size W2 w5:=hbA.grown hg5 (by first|(simp;done)|(simp;omega)) (fun q hq=>by have h2:W2.heap.size=q:=(by simpa [Value.ownBlock] using hq);omega);refine hK.out _ _ ⟨hb5,zac hb5 M0,zac hb5 M1,zac hb5 M2⟩ (fun hHeld=>?_)
        (clear hK K;(try simp only[Act.put,pz]))
        refine rgb (i:=6) (by kernel_rfl) rfl (fun K hK=>?_)
        go_simp
        have hb6:Below W2.heap.size W2 (w5.alloc (.cells #[.int .i64 x.1,.string x.2.1,.string x.2.2] 35)):=hb5.alloc hb5.size _;refine hK.out _ _ ⟨hb6,zac hb6 M0,zac hb6 M1,zac hb6 M2⟩ (fun hHeld=>?_)
        (clear hK K;(try simp only[Act.put,pz]))
        have own6:(w5.alloc (.cells #[.int .i64 x.1,.string x.2.1,.string x.2.2] 35)).ownsRow _ _ _ _ _ _:=zaD hown5 (fun x hx=>(zab w5 _).block x (zam hown5 x hx).2);have csx:=zdf w5 (x.1,x.2.1,x.2.2) 35 _ rfl;refine rgb (i:=7) (by kernel_rfl) rfl (fun K hK=>?_)
        refine za9 _ rfl (.tmp 46) (.tmp 48) 25 35 _ _ 3 40 (by rfl) Tryz.underlying25 zgi zcR zcS zcT rfl (by decide) W2.heap.size (.slice a5 (0+i) c5) (.slice (some ⟨w5.heap.size,0,none⟩) 1 1) (0+i) 1 _ (rv [(x.1,x.2.1,x.2.2)]) (by simp [Act.eval]) own6 (by simp [Act.eval]) csx (zbP _) (by unfold maxLen;omega) (by omega) hb6.size ?_
        intro a7 c7 w7 hown7 hg7 _;have hb7:Below W2.heap.size W2 w7:=hb6.grown hg7 hb6.size (fun q hq=>(zam own6 q hq).1);refine hK.out _ _ ⟨hb7,zac hb7 M0,zac hb7 M1,zac hb7 M2⟩ (fun hHeld=>?_)
        (clear hK K;(try simp only[Act.put,pz]))
        refine rgb (i:=11) (by kernel_rfl) rfl (fun K hK=>?_)
        refine za9 _ rfl (.tmp 49) (.tmp 52) 25 35 _ _ 3 40 (by rfl) Tryz.underlying25 zgi zcR zcS zcT rfl (by decide) W2.heap.size (.slice a7 (0+i+1) c7) (.slice (some ⟨g,zk6 vc i,none⟩) (D.length - i) (vc - i)) (0+i+1) (D.length - i) _ (rv (D.drop i)) (by simp [Act.eval]) hown7 (by simp [Act.eval]) ((zk0 HO2.out rfl hcap.1).below hb7) (zbP _) (by unfold maxLen;omega) (by omega) hb7.size ?_
        intro a8 c8 w8 hown8 hg8 _;have hb8:Below W2.heap.size W2 w8:=hb7.grown hg8 hb7.size (fun q hq=>(zam hown7 q hq).1);rw[HFin.out] at hown8;generalize hLL:0+i+1+(D.length - i)=L at hown8 ⊢;obtain rfl:L=(zeu x D).length:=by rw[zbz];omega
        obtain⟨g8,rfl,-,-⟩:=zbO hown8 (by rw[zbz];omega);refine hK.out _ _ ⟨hb8,zac hb8 M0,zac hb8 M1,zac hb8 M2⟩ (fun hHeld=>?_)
        (clear hK K;(try simp only[Act.put,pz]))
        (refine rgy (i:=12) (some 4) ?_;(try simp only[Act.put,pz]))
        refine wpAnyH_done (by kernel_rfl) ?_ _
        have HN8:=lh hown8;have HB8:=lh hb8;clear hown7 hown8 hg7 hg8 hHeld hb7 hb8;go_wp2_with fail
        repeat (rename_i oq dq hq;obtain rfl:=Option.some.inj hq;clear hq)
        go_ret
        exact⟨g8,c8,rfl,zdy HN8.out zB,HB2.out.trans (HB8.out.mono zB)⟩
      · go_simp
        have hbB:Below W2.heap.size W2 ((W2.drew.alloc (.cells #[] 35)).alloc (.cells #[.int .i64 x.1,.string x.2.1,.string x.2.2] 35)):=hbA.alloc (by simp) _;refine hK.out _ _ ⟨hbB,zac hbB M0,zac hbB M1,zac hbB M2⟩ (fun hHeld=>?_)
        (clear hK K;(try simp only[Act.put,pz]))
        refine rgb (i:=4) (by kernel_rfl) rfl (fun K hK=>?_)
        refine za9 _ rfl (.tmp 42) (.tmp 45) 25 35 _ _ 3 40 (by rfl) Tryz.underlying25 zgi zcR zcS zcT rfl (by decide) W2.heap.size (.slice (some ⟨W2.heap.size,0,none⟩) 0 0) (.slice (some ⟨g,0,none⟩) i vc) 0 i [] (rv (D.take i)) (by simp [Act.eval]) (zaD (zcw (w:=W2.drew) rfl (Nat.le_refl _)) (fun x hx=>(zab (W2.drew.alloc (.cells #[] 35)) _).block x (by have hx2:W2.heap.size=x:=(by simpa [Value.ownBlock] using hx);simp [<-hx2]))) (by simp [Act.eval]) ((zkB HO2.out rfl i3).below hbB) (zbP _) (by unfold maxLen;omega) (by omega) (by first|(simp;done)|(simp;omega)) ?_
        intro a5 c5 w5 hown5 hg5 _;have hb5:Below W2.heap.size W2 w5:=hbB.grown hg5 (by first|(simp;done)|(simp;omega)) (fun q hq=>by have h2:W2.heap.size=q:=(by simpa [Value.ownBlock] using hq);omega);have csx:=(zdf (W2.drew.alloc (.cells #[] 35)) (x.1,x.2.1,x.2.2) 35 (W2.heap.size+1) (by simp)).grown hg5 (by intro e;have e2:W2.heap.size+1=W2.heap.size:=Option.some.inj e;omega) (by first|(simp;done)|(simp;omega));refine hK.out _ _ ⟨hb5,zac hb5 M0,zac hb5 M1,zac hb5 M2⟩ (fun hHeld=>?_)
        (clear hK K;(try simp only[Act.put,pz]))
        refine rgb (i:=7) (by kernel_rfl) rfl (fun K hK=>?_)
        refine za9 _ rfl (.tmp 46) (.tmp 48) 25 35 _ _ 3 40 (by rfl) Tryz.underlying25 zgi zcR zcS zcT rfl (by decide) W2.heap.size (.slice a5 (0+i) c5) (.slice (some ⟨W2.heap.size+1,0,none⟩) 1 1) (0+i) 1 _ (rv [(x.1,x.2.1,x.2.2)]) (by simp [Act.eval]) hown5 (by simp [Act.eval]) csx (zbP _) (by unfold maxLen;omega) (by omega) hb5.size ?_
        intro a7 c7 w7 hown7 hg7 _;have hb7:Below W2.heap.size W2 w7:=hb5.grown hg7 hb5.size (fun q hq=>(zam hown5 q hq).1);refine hK.out _ _ ⟨hb7,zac hb7 M0,zac hb7 M1,zac hb7 M2⟩ (fun hHeld=>?_)
        (clear hK K;(try simp only[Act.put,pz]))
        refine rgb (i:=11) (by kernel_rfl) rfl (fun K hK=>?_)
        refine za9 _ rfl (.tmp 49) (.tmp 52) 25 35 _ _ 3 40 (by rfl) Tryz.underlying25 zgi zcR zcS zcT rfl (by decide) W2.heap.size (.slice a7 (0+i+1) c7) (.slice (some ⟨g,zk6 vc i,none⟩) (D.length - i) (vc - i)) (0+i+1) (D.length - i) _ (rv (D.drop i)) (by simp [Act.eval]) hown7 (by simp [Act.eval]) ((zk0 HO2.out rfl hcap.1).below hb7) (zbP _) (by unfold maxLen;omega) (by omega) hb7.size ?_
        intro a8 c8 w8 hown8 hg8 _;have hb8:Below W2.heap.size W2 w8:=hb7.grown hg8 hb7.size (fun q hq=>(zam hown7 q hq).1);rw[HFin.out] at hown8;generalize hLL:0+i+1+(D.length - i)=L at hown8 ⊢;obtain rfl:L=(zeu x D).length:=by rw[zbz];omega
        obtain⟨g8,rfl,-,-⟩:=zbO hown8 (by rw[zbz];omega);refine hK.out _ _ ⟨hb8,zac hb8 M0,zac hb8 M1,zac hb8 M2⟩ (fun hHeld=>?_)
        (clear hK K;(try simp only[Act.put,pz]))
        (refine rgy (i:=12) (some 4) ?_;(try simp only[Act.put,pz]))
        refine wpAnyH_done (by kernel_rfl) ?_ _
        have HN8:=lh hown8;have HB8:=lh hb8;clear hown7 hown8 hg7 hg8 hHeld hb7 hb8;go_wp2_with fail
        repeat (rename_i oq dq hq;obtain rfl:=Option.some.inj hq;clear hq)
        go_ret
        exact⟨g8,c8,rfl,zdy HN8.out zB,HB2.out.trans (HB8.out.mono zB)⟩
    · go_simp
      have hbA:Below W2.heap.size W2 (W2.drew.alloc (.cells #[.int .i64 x.1,.string x.2.1,.string x.2.2] 35)):=(Below.drew (Below.refl _ _)).alloc (by simp) _;refine hK.out _ _ ⟨hbA,zac hbA M0,zac hbA M1,zac hbA M2⟩ (fun hHeld=>?_)
      (clear hK K;(try simp only[Act.put,pz]))
      refine rgb (i:=0) (by kernel_rfl) rfl (fun K hK=>?_)
      go_simp
      have hbB:Below W2.heap.size W2 ((W2.drew.alloc (.cells #[.int .i64 x.1,.string x.2.1,.string x.2.2] 35)).alloc (.cells #[] 35)):=hbA.alloc (by simp) _;refine hK.out _ _ ⟨hbB,zac hbB M0,zac hbB M1,zac hbB M2⟩ (fun hHeld=>?_)
      (clear hK K;(try simp only[Act.put,pz]))
      refine rgb (i:=4) (by kernel_rfl) rfl (fun K hK=>?_)
      refine za9 _ rfl (.tmp 42) (.tmp 45) 25 35 _ _ 3 40 (by rfl) Tryz.underlying25 zgi zcR zcS zcT rfl (by decide) W2.heap.size (.slice (some ⟨W2.heap.size+1,0,none⟩) 0 0) (.slice (some ⟨g,0,none⟩) i vc) 0 i [] (rv (D.take i)) (by simp [Act.eval]) (zcw (w:=(W2.drew.alloc (.cells #[.int .i64 x.1,.string x.2.1,.string x.2.2] 35))) (by simp) (by omega)) (by simp [Act.eval]) ((zkB HO2.out rfl i3).below hbB) (zbP _) (by unfold maxLen;omega) (by omega) (by first|(simp;done)|(simp;omega)) ?_
      intro a5 c5 w5 hown5 hg5 _;have hb5:Below W2.heap.size W2 w5:=hbB.grown hg5 (by first|(simp;done)|(simp;omega)) (fun q hq=>by have h2:W2.heap.size+1=q:=(by simpa [Value.ownBlock] using hq);omega);have csx:=((zdf W2.drew (x.1,x.2.1,x.2.2) 35 W2.heap.size rfl).below (zab _ (.cells #[] 35))).grown hg5 (by intro e;have e2:W2.heap.size=W2.heap.size+1:=Option.some.inj e;omega) (by first|(simp;done)|(simp;omega));refine hK.out _ _ ⟨hb5,zac hb5 M0,zac hb5 M1,zac hb5 M2⟩ (fun hHeld=>?_)
      (clear hK K;(try simp only[Act.put,pz]))
      refine rgb (i:=7) (by kernel_rfl) rfl (fun K hK=>?_)
      refine za9 _ rfl (.tmp 46) (.tmp 48) 25 35 _ _ 3 40 (by rfl) Tryz.underlying25 zgi zcR zcS zcT rfl (by decide) W2.heap.size (.slice a5 (0+i) c5) (.slice (some ⟨W2.heap.size,0,none⟩) 1 1) (0+i) 1 _ (rv [(x.1,x.2.1,x.2.2)]) (by simp [Act.eval]) hown5 (by simp [Act.eval]) csx (zbP _) (by unfold maxLen;omega) (by omega) hb5.size ?_
      intro a7 c7 w7 hown7 hg7 _;have hb7:Below W2.heap.size W2 w7:=hb5.grown hg7 hb5.size (fun q hq=>(zam hown5 q hq).1);refine hK.out _ _ ⟨hb7,zac hb7 M0,zac hb7 M1,zac hb7 M2⟩ (fun hHeld=>?_)
      (clear hK K;(try simp only[Act.put,pz]))
      refine rgb (i:=11) (by kernel_rfl) rfl (fun K hK=>?_)
      refine za9 _ rfl (.tmp 49) (.tmp 52) 25 35 _ _ 3 40 (by rfl) Tryz.underlying25 zgi zcR zcS zcT rfl (by decide) W2.heap.size (.slice a7 (0+i+1) c7) (.slice (some ⟨g,zk6 vc i,none⟩) (D.length - i) (vc - i)) (0+i+1) (D.length - i) _ (rv (D.drop i)) (by simp [Act.eval]) hown7 (by simp [Act.eval]) ((zk0 HO2.out rfl hcap.1).below hb7) (zbP _) (by unfold maxLen;omega) (by omega) hb7.size ?_
      intro a8 c8 w8 hown8 hg8 _;have hb8:Below W2.heap.size W2 w8:=hb7.grown hg8 hb7.size (fun q hq=>(zam hown7 q hq).1);rw[HFin.out] at hown8;generalize hLL:0+i+1+(D.length - i)=L at hown8 ⊢;obtain rfl:L=(zeu x D).length:=by rw[zbz];omega
      obtain⟨g8,rfl,-,-⟩:=zbO hown8 (by rw[zbz];omega);refine hK.out _ _ ⟨hb8,zac hb8 M0,zac hb8 M1,zac hb8 M2⟩ (fun hHeld=>?_)
      (clear hK K;(try simp only[Act.put,pz]))
      (refine rgy (i:=12) (some 4) ?_;(try simp only[Act.put,pz]))
      refine wpAnyH_done (by kernel_rfl) ?_ _
      have HN8:=lh hown8;have HB8:=lh hb8;clear hown7 hown8 hg7 hg8 hHeld hb7 hb8;go_wp2_with fail
      repeat (rename_i oq dq hq;obtain rfl:=Option.some.inj hq;clear hq)
      go_ret
      exact⟨g8,c8,rfl,zdy HN8.out zB,HB2.out.trans (HB8.out.mono zB)⟩
end
section
open Go.RowKit
theorem zqS{c:Ch}(D:List Rw)(h:c.1=0):apS D c=zeu (c.2.1,c.2.2.1,c.2.2.2.1) (zba c D):=if_pos h
theorem zqQ{c:Ch}(D:List Rw)(h:¬ c.1=0):apS D c=zba c D:=if_neg h
theorem zhZ(rv0:Value)(rows:List Rw)(cv0:Value)(cs:List Ch)(w:World)(hR:RwS w rv0 rows)(hC:ChS w cv0 cs)(h1:rows.length<=1000)(h2:cs.length<=1000) :
  Calls Tryz.prog 24 #[rv0,cv0] w fun r w'=>∃ v',r=.returned v'∧RwS w' v' (apl rows cs)∧(∀ q,v'.ownBlock=some q->w.heap.size<=q∧q<w'.heap.size)∧Below w.heap.size w w':=by
 obtain⟨a,c,rfl,-,hc⟩:=hR;obtain⟨ca,cc,rfl,-,hcc⟩:=hC;have HR:=lh hc;have HC:=lh hcc;clear hc hcc;go_enter Tryz.func24,Tryz.ntmps24
 go_wp2_with fail
 go_loopw [5,6] (fun v i wr=>∃ (k g vc:Nat),k<=rows.length∧i=.int .i64 k∧v=.slice (some ⟨g,0,none⟩) (zcl (rows.take k)).length vc∧wr.ownsRow w.heap.size 35 3 (.slice (some ⟨g,0,none⟩) (zcl (rows.take k)).length vc) (zcl (rows.take k)).length (rv (zcl (rows.take k)))∧Below w.heap.size w wr) (fun _ i _=>rows.length - (intOf i).toNat)
 case atStart=>exact⟨0,w.heap.size,0,Nat.zero_le _,rfl,rfl,World.ownsRow_made w #[] 0 (Nat.le_refl _) (Nat.zero_le _) rfl,by exact zbo⟩
 case round =>
  obtain⟨k,g,vc,hk,rfl,rfl,hown,B⟩:=hrel;have z0:=B.size;have HB:=lh B;clear B;by_cases hlt:k<rows.length
  · obtain⟨b,o,rfl,hb,hcell⟩:=HR.out (by omega);obtain⟨q0,q1,q2⟩:=hcell k hlt;have p0:=(HB.out.cell hb).trans q0;have p1:=(HB.out.cell hb).trans q1;have p2:=(HB.out.cell hb).trans q2;have j1:(0:Int)<=(k:Int):=by omega
    have j2:(k:Int)<(rows.length:Int):=by omega
    have hadd:=zm5 g vc w.heap.size (zcl (rows.take k)) rows[k] wr hown (by rw[zf1,List.length_take];omega);have hsn:zeu rows[k] (zcl (rows.take k))=zcl (rows.take (k+1)):=by rw[List.take_succ_eq_append_getElem hlt,zir]
    rw[hsn] at hadd;have HAD:=lh hadd;clear hadd hsn hcell q0 q1 q2 hown;go_wp2_with (go_at_call 67;(refine HAD.out.mono ?_);rintro _ w2 ⟨g',c',rfl,ho,hb2⟩;have HO2:=lh ho;have HB2:=lh hb2;clear ho hb2)
    go_roundw
    case rel=>exact⟨k+1,g',c',by omega,by go_num,rfl,zdy HO2.out z0,bt HB.out HB2.out⟩
    case measure=>simp [intOf];omega
  · obtain rfl:k=rows.length:=by omega
    have e0:zcl (rows.take rows.length)=apl rows (cs.take 0):=by rw[List.take_of_length_le (Nat.le_refl _)];rfl
    rw[e0] at hown ⊢;have HO:=lh hown;clear hown e0;go_wp2_with fail
    go_loopw [5,7] (fun v i wr=>∃ (k g vc:Nat),k<=cs.length∧i=.int .i64 k∧v=.slice (some ⟨g,0,none⟩) (apl rows (cs.take k)).length vc∧wr.ownsRow w.heap.size 35 3 (.slice (some ⟨g,0,none⟩) (apl rows (cs.take k)).length vc) (apl rows (cs.take k)).length (rv (apl rows (cs.take k)))∧Below w.heap.size w wr) (fun _ i _=>cs.length - (intOf i).toNat)
    case atStart=>exact⟨0,g,vc,Nat.zero_le _,rfl,rfl,HO.out,HB.out⟩
    case round =>
     clear HO HB z0;obtain⟨k,g,vc,hk,rfl,rfl,hown,B⟩:=hrel;have z0:=B.size;have HB:=lh B;clear B;by_cases hlt:k<cs.length
     · obtain⟨b,o,rfl,hb,hcell⟩:=HC.out (by omega);have p0:wr.cell? ⟨b,o+k*5,none⟩=some (.int .i64 cs[k].1):=(HB.out.cell (p:=⟨b,o+k*5,none⟩) hb).trans (hcell k hlt 0 _ rfl);have p1:wr.cell? ⟨b,o+k*5+1,none⟩=some (.int .i64 cs[k].2.1):=(HB.out.cell (p:=⟨b,o+k*5+1,none⟩) hb).trans (hcell k hlt 1 _ rfl);have p2:wr.cell? ⟨b,o+k*5+2,none⟩=some (.string cs[k].2.2.1):=(HB.out.cell (p:=⟨b,o+k*5+2,none⟩) hb).trans (hcell k hlt 2 _ rfl);have p3:wr.cell? ⟨b,o+k*5+3,none⟩=some (.string cs[k].2.2.2.1):=(HB.out.cell (p:=⟨b,o+k*5+3,none⟩) hb).trans (hcell k hlt 3 _ rfl);have hbz:b<wr.heap.size:=by omega
       have j1:(0:Int)<=(k:Int):=by omega
       have j2:(k:Int)<(cs.length:Int):=by omega
       have hsn:apl rows (cs.take (k+1))=apS (apl rows (cs.take k)) cs[k]:=by rw[List.take_succ_eq_append_getElem hlt,znT]
       have hle:=ziu rows (cs.take k);have hle2:(cs.take k).length<=k:=by rw[List.length_take];omega
       have HSN:=lh hsn;clear hsn hcell;generalize apl rows (cs.take k)=D at hown HSN hle ⊢;generalize cs[k]=x at p0 p1 p2 p3 HSN;obtain⟨xk,xi,xy,xr,xv⟩:=x;dsimp only at p0 p1 p2 p3;have hgl:g<wr.heap.size:=(zam hown g rfl).2
       have hTc:∀ j (h:j<D.length),wr.cell? ⟨g,j*3,none⟩=some (.int .i64 D[j].1)∧wr.cell? ⟨g,j*3+1,none⟩=some (.string D[j].2.1)∧wr.cell? ⟨g,j*3+2,none⟩=some (.string D[j].2.2):=fun j h=>by
        have:=((zdj (by omega) (zbq hown)):RwS _ _ D);obtain⟨a',c',e,-,hp⟩:=this;obtain⟨b',o',rfl,-,hq⟩:=hp (by omega);cases e
        have q:=hq j h;rw[Nat.zero_add] at q;exact q
       have HTC:=lh hTc;clear hTc hown;obtain⟨wo,hwo⟩:∃ wo,wo=wr:=⟨_,rfl⟩;subst hwo;go_wp2_with fail
       go_loopw [8,9] (fun r j wr=>∃ (i gr vr:Nat),i<=D.length∧j=.int .i64 i∧r=.slice (some ⟨gr,0,none⟩) (zba (xk,xi,xy,xr,xv) (D.take i)).length vr∧wr.ownsRow wo.heap.size 35 3 (.slice (some ⟨gr,0,none⟩) (zba (xk,xi,xy,xr,xv) (D.take i)).length vr) (zba (xk,xi,xy,xr,xv) (D.take i)).length (rv (zba (xk,xi,xy,xr,xv) (D.take i)))∧Below wo.heap.size wo wr) (fun _ j _=>D.length - (intOf j).toNat)
       case atStart=>exact⟨0,wo.heap.size,0,Nat.zero_le _,rfl,rfl,zcw rfl (Nat.le_refl _),by exact zbo⟩
       case round =>
        obtain⟨i,gr,vr,hi,rfl,rfl,hr,Bx⟩:=hrel;have zx:=Bx.size;have HRO:=lh hr;have HBX:=lh Bx;have hrl:=zf2 (xk,xi,xy,xr,xv) (D.take i);have hrl2:(D.take i).length<=D.length:=by rw[List.length_take];omega
        have r0:=(Bx.cell (p:=⟨b,o+k*5,none⟩) hbz).trans p0;have r1:=(Bx.cell (p:=⟨b,o+k*5+1,none⟩) hbz).trans p1;have r2:=(Bx.cell (p:=⟨b,o+k*5+2,none⟩) hbz).trans p2;have r3:=(Bx.cell (p:=⟨b,o+k*5+3,none⟩) hbz).trans p3;clear hr Bx;by_cases hi2:i<D.length
        · obtain⟨d0,d1,d2⟩:=HTC.out i hi2;have s0:=(HBX.out.cell (p:=⟨g,i*3,none⟩) hgl).trans d0;have s1:=(HBX.out.cell (p:=⟨g,i*3+1,none⟩) hgl).trans d1;have s2:=(HBX.out.cell (p:=⟨g,i*3+2,none⟩) hgl).trans d2;clear d0 d1 d2;have i1:(0:Int)<=(i:Int):=by omega
          have i2:(i:Int)<(D.length:Int):=by omega
          have hsn:=zit (c:=(xk,xi,xy,xr,xv)) hi2;have t2:=zei D[i].2.1 xy;by_cases e1:D[i].1=xi
          · have t1:(D[i].1 != xi)=false:=by rw[e1];simp
            have t1b:(D[i].1==xi)=true:=beq_iff_eq.2 e1;by_cases e2:D[i].2.1=xy
            · rw[decide_eq_true e2] at t2;have HQ:=lh (hsn.trans (if_pos (by unfold znF;rw[decide_eq_true e1,decide_eq_true e2];rfl)));clear e1 e2 hsn;go_wp2_with fail
              go_quiet (fail)
              generalize hW2:World.drewN wr _=W2;have HB2:Hid (Below wo.heap.size wo W2):=lh (by rw[<-hW2];exact HBX.out.trans (bdr _ _ _));have HO2:=lh (zaD HRO.out (fun y _=>by rw[<-hW2];rfl):W2.ownsRow wo.heap.size 35 3 (.slice (some ⟨gr,0,none⟩) (zba (xk,xi,xy,xr,xv) (D.take i)).length vr) _ _);go_wp2_with fail
              go_roundw
              case rel=>exact⟨i+1,gr,vr,by omega,by go_num,by rw[HQ.out],by rw[HQ.out];exact HO2.out,HB2.out⟩
              case measure=>simp [intOf];omega
            · rw[decide_eq_false e2] at t2;have HQ:=lh (hsn.trans (if_neg (by unfold znF;rw[decide_eq_false e2];simp)));clear e1 e2 hsn;go_wp2_with fail;go_quiet (fail);generalize hW2:World.drewN wr _=W2;have HB2:Hid (Below wo.heap.size wo W2):=lh (by rw[<-hW2];exact HBX.out.trans (bdr _ _ _));have HO2:=lh (zaD HRO.out (fun y _=>by rw[<-hW2];rfl):W2.ownsRow wo.heap.size 35 3 (.slice (some ⟨gr,0,none⟩) (zba (xk,xi,xy,xr,xv) (D.take i)).length vr) (zba (xk,xi,xy,xr,xv) (D.take i)).length (rv (zba (xk,xi,xy,xr,xv) (D.take i))));have u0:W2.cell? ⟨g,i*3,none⟩=some (.int .i64 D[i].1):=(by rw[<-hW2];exact s0);have u1:W2.cell? ⟨g,i*3+1,none⟩=some (.string D[i].2.1):=(by rw[<-hW2];exact s1);have u2:W2.cell? ⟨g,i*3+2,none⟩=some (.string D[i].2.2):=(by rw[<-hW2];exact s2);have z2:wo.heap.size<=W2.heap.size:=HB2.out.size;clear hW2;go_wp2_with (at_builtin;refine zca _ rfl (.tmp 60) (.tmp 65) 25 35 _ _ 3 40 rfl Tryz.underlying25 zgi zcR zcS zcT rfl (by decide) wo.heap.size (.slice (some ⟨gr,0,none⟩) (zba (xk,xi,xy,xr,xv) (D.take i)).length vr) (.slice (some ⟨W2.heap.size,0,none⟩) 1 1) (zba (xk,xi,xy,xr,xv) (D.take i)).length 1 (rv (zba (xk,xi,xy,xr,xv) (D.take i))) (rv [(D[i].1,D[i].2.1,D[i].2.2)]) rfl (zaD HO2.out (fun y hy=>(zab W2 _).block y (zam HO2.out y hy).2)) rfl (zdf W2 (D[i].1,D[i].2.1,D[i].2.2) _ _ rfl) (zbP _) (by unfold maxLen;omega) (by omega) (by simp;omega) ?_;intro a5 c5 w5 hown5 hg5 hat5;obtain⟨g8,rfl,-,-⟩:=zbO hown5 (by omega);have B5:=lh (((HB2.out.alloc z2 _).grown hg5 (by simp;omega) (fun q hq=>(zam HO2.out q hq).1)):Below wo.heap.size wo w5);have HOW:=lh hown5;clear hown5 hg5 hat5);go_roundw;(case rel=>exact⟨i+1,g8,c5,by omega,by go_num,by rw[HQ.out,List.length_append];rfl,by rw[HQ.out,List.length_append,zeQ];exact HOW.out,B5.out⟩);(case measure=>simp [intOf];omega)
          · have t1:(D[i].1 != xi)=true:=bne_iff_ne.2 e1;have t1b:(D[i].1==xi)=false:=beq_eq_false_iff_ne.2 e1;have HQ:=lh (hsn.trans (if_neg (by unfold znF;rw[decide_eq_false e1];simp)));clear e1 hsn t2;go_wp2_with fail;go_quiet (fail);generalize hW2:World.drewN wr _=W2;have HB2:Hid (Below wo.heap.size wo W2):=lh (by rw[<-hW2];exact HBX.out.trans (bdr _ _ _));have HO2:=lh (zaD HRO.out (fun y _=>by rw[<-hW2];rfl):W2.ownsRow wo.heap.size 35 3 (.slice (some ⟨gr,0,none⟩) (zba (xk,xi,xy,xr,xv) (D.take i)).length vr) (zba (xk,xi,xy,xr,xv) (D.take i)).length (rv (zba (xk,xi,xy,xr,xv) (D.take i))));have u0:W2.cell? ⟨g,i*3,none⟩=some (.int .i64 D[i].1):=(by rw[<-hW2];exact s0);have u1:W2.cell? ⟨g,i*3+1,none⟩=some (.string D[i].2.1):=(by rw[<-hW2];exact s1);have u2:W2.cell? ⟨g,i*3+2,none⟩=some (.string D[i].2.2):=(by rw[<-hW2];exact s2);have z2:wo.heap.size<=W2.heap.size:=HB2.out.size;clear hW2;go_wp2_with (at_builtin;refine zca _ rfl (.tmp 60) (.tmp 65) 25 35 _ _ 3 40 rfl Tryz.underlying25 zgi zcR zcS zcT rfl (by decide) wo.heap.size (.slice (some ⟨gr,0,none⟩) (zba (xk,xi,xy,xr,xv) (D.take i)).length vr) (.slice (some ⟨W2.heap.size,0,none⟩) 1 1) (zba (xk,xi,xy,xr,xv) (D.take i)).length 1 (rv (zba (xk,xi,xy,xr,xv) (D.take i))) (rv [(D[i].1,D[i].2.1,D[i].2.2)]) rfl (zaD HO2.out (fun y hy=>(zab W2 _).block y (zam HO2.out y hy).2)) rfl (zdf W2 (D[i].1,D[i].2.1,D[i].2.2) _ _ rfl) (zbP _) (by unfold maxLen;omega) (by omega) (by simp;omega) ?_;intro a5 c5 w5 hown5 hg5 hat5;obtain⟨g8,rfl,-,-⟩:=zbO hown5 (by omega);have B5:=lh (((HB2.out.alloc z2 _).grown hg5 (by simp;omega) (fun q hq=>(zam HO2.out q hq).1)):Below wo.heap.size wo w5);have HOW:=lh hown5;clear hown5 hg5 hat5);go_roundw;(case rel=>exact⟨i+1,g8,c5,by omega,by go_num,by rw[HQ.out,List.length_append];rfl,by rw[HQ.out,List.length_append,zeQ];exact HOW.out,B5.out⟩);(case measure=>simp [intOf];omega)
        · obtain rfl:i=D.length:=by omega
          rw[List.take_of_length_le (Nat.le_refl _)] at HRO hrl ⊢;by_cases hk0:xk=0
          rotate_left
          · have t0:(xk==0)=false:=beq_eq_false_iff_ne.2 hk0;have HQ:=lh (HSN.out.trans (zqQ D hk0));clear hk0;go_wp2_with fail
            go_roundw
            case rel=>exact⟨k+1,gr,vr,by omega,by go_num,by rw[HQ.out],by rw[HQ.out];exact zdy HRO.out z0,bt HB.out HBX.out⟩
            case measure=>simp [intOf];omega
          · have t0:(xk==0)=true:=beq_iff_eq.2 hk0;have HQ:=lh (HSN.out.trans (zqS D hk0));clear hk0;have HAD:=lh (fun W (ho:W.ownsRow wo.heap.size 35 3 (.slice (some ⟨gr,0,none⟩) (zba (xk,xi,xy,xr,xv) D).length vr) (zba (xk,xi,xy,xr,xv) D).length (rv (zba (xk,xi,xy,xr,xv) D)))=>zm5 gr vr wo.heap.size (zba (xk,xi,xy,xr,xv) D) (xi,xy,xr) W ho (by omega));go_upto_region 17 with fail
            refine wp_region_held_drew (S:=fun w'=>w'.cell? ⟨b,o+k*5+1,none⟩=some (.int .i64 xi)∧w'.cell? ⟨b,o+k*5+2,none⟩=some (.string xy)∧w'.cell? ⟨b,o+k*5+3,none⟩=some (.string xr)∧Below wr.heap.size wr w') (by kernel_rfl) ?_ (fun hHeld=>?_)
            · exact⟨r1,r2,r3,Below.drew (Below.refl _ _)⟩
            have hbx:b<wr.heap.size:=by omega
            have KS:∀ {W':World},Below wr.heap.size wr W'->W'.cell? ⟨b,o+k*5+1,none⟩=some (.int .i64 xi)∧W'.cell? ⟨b,o+k*5+2,none⟩=some (.string xy)∧W'.cell? ⟨b,o+k*5+3,none⟩=some (.string xr)∧Below wr.heap.size wr W':=fun h=>⟨(h.cell (p:=⟨b,_,none⟩) hbx).trans r1,(h.cell (p:=⟨b,_,none⟩) hbx).trans r2,(h.cell (p:=⟨b,_,none⟩) hbx).trans r3,h⟩
            (refine rgy (i:=0) (some 74) ?_;(try simp only[Act.put,pz]))
            (refine rgy (i:=1) (some 75) ?_;(try simp only[Act.put,pz]))
            (refine rgy (i:=2) (some 76) ?_;(try simp only[Act.put,pz]))
            (refine rgy (i:=3) (some 77) ?_;(try simp only[Act.put,pz]))
            (refine rgy (i:=4) (some 78) ?_;(try simp only[Act.put,pz]))
            (refine rgy (i:=5) (some 79) ?_;(try simp only[Act.put,pz]))
            (refine rgy (i:=6) (some 80) ?_;(try simp only[Act.put,pz]))
            (refine rgy (i:=7) (some 81) ?_;(try simp only[Act.put,pz]))
            (refine rgy (i:=8) (some 82) ?_;(try simp only[Act.put,pz]))
            (refine rgy (i:=9) (some 83) ?_;(try simp only[Act.put,pz]))
            (refine rgy (i:=10) (some 84) ?_;(try simp only[Act.put,pz]))
            (refine rgy (i:=11) (some 85) ?_;(try simp only[Act.put,pz]))
            (refine rgy (i:=12) (some 86) ?_;(try simp only[Act.put,pz]))
            (refine rgy (i:=13) (some 87) ?_;(try simp only[Act.put,pz]))
            (refine rgy (i:=14) (some 88) ?_;(try simp only[Act.put,pz]))
            (refine rgy (i:=15) (some 89) ?_;(try simp only[Act.put,pz]))
            (refine rgy (i:=16) (some 90) ?_;(try simp only[Act.put,pz]))
            refine rgb (i:=17) (by kernel_rfl) rfl (fun K hK=>?_)
            go_simp
            go_at_call 67
            refine (HAD.out wr.drew (zaD HRO.out (fun y _=>rfl))).mono ?_
            rintro _ w2 ⟨g',c',rfl,ho,hb2⟩;have hb3:Below wr.heap.size wr w2:=(Below.refl wr.heap.size wr).drew.trans hb2;refine hK.out _ _ (KS hb3) (fun hHeld=>?_)
            (clear hK K;(try simp only[Act.put,pz]))
            (refine rgy (i:=18) (some 5) ?_;(try simp only[Act.put,pz]))
            refine wpAnyH_done (by kernel_rfl) ?_ _
            have HO2:=lh ho;have HB3:=lh hb3;clear ho hb2 hb3 hHeld;go_wp2_with fail
            go_roundw
            case rel=>exact⟨k+1,g',c',by omega,by go_num,by rw[HQ.out],by rw[HQ.out];exact zdy HO2.out (by show w.heap.size<=wr.heap.size;omega),bt HB.out (bt HBX.out HB3.out)⟩
            case measure=>simp [intOf];omega
     · obtain rfl:k=cs.length:=by omega
       rw[List.take_of_length_le (Nat.le_refl _)] at hown ⊢;have hle:=ziu rows cs;have HO:=lh hown;clear hown;go_wp2_with fail
       go_ret
       exact⟨_,rfl,zdj (by omega) (zbq HO.out),fun q hq=>zam HO.out q hq,HB.out⟩
end
end Go.Proofs.YtefcmdmfgdcpmaaGreatDoor
