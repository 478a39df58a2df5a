/- Several texts in one: FrameCh LaRd CardRd. -/
import Derived.Test.YtdfdjfnfmibpjaaGreatDoorFrameEs
import Derived.Test.YtdfdjfnfmibpjaaGreatDoorNo
import Derived.Test.YtdfdjfnfmibpjaaGreatDoorAw7
import Derived.Test.YtdfdjfnfmibpjaaGreatDoorSrt
import Derived.Test.YtdfdjfnfmibpjaaGreatDoorJRebuildReads
section
/- Slices of changes among the arguments: opened, however many. -/
namespace Go.Proofs.YtdfdjfnfmibpjaaGreatDoor
open Go.ChangeShapes Go.WideShapes Go.RowKit
set_option maxRecDepth 100000
theorem open_chg {H:Type} {enc:TypeId × Value→H} {W:World} {fuel:Nat} {cs:List Value} {x:DataW H × List MemPlace} (hl:cs.length=5) (h:DataW.trod enc Tryz.prog W 0 (fun _=>true) true fuel 71 cs=some x) :
  ∃ y:Ch,cs=(ch5 y).toList:=by
 rcases cs with _ | ⟨x0,_ | ⟨x1,_ | ⟨x2,_ | ⟨x3,_ | ⟨x4,_ | ⟨x5,l⟩⟩⟩⟩⟩⟩ <;> simp at hl
 obtain⟨n,hf⟩:=st_fld Tryz.underlying71 h
 obtain⟨_,t0⟩:=hf 0 _ rfl
 obtain⟨y0,e0,-⟩:=DataW.trod_int Tryz.underlying3 t0
 have k0:x0=.int .i64 y0:=List.head_eq_of_cons_eq e0
 obtain⟨_,t1⟩:=hf 1 _ rfl
 obtain⟨y1,e1,-⟩:=DataW.trod_int Tryz.underlying3 t1
 have k1:x1=.int .i64 y1:=List.head_eq_of_cons_eq e1
 obtain⟨_,t2⟩:=hf 2 _ rfl
 obtain⟨y2,e2,-⟩:=DataW.trod_string Tryz.underlying9 t2
 have k2:x2=.string y2:=List.head_eq_of_cons_eq e2
 obtain⟨_,t3⟩:=hf 3 _ rfl
 obtain⟨y3,e3,-⟩:=DataW.trod_string Tryz.underlying9 t3
 have k3:x3=.string y3:=List.head_eq_of_cons_eq e3
 obtain⟨_,t4⟩:=hf 4 _ rfl
 obtain⟨y4,e4,-⟩:=DataW.trod_string Tryz.underlying9 t4
 have k4:x4=.string y4:=List.head_eq_of_cons_eq e4
 subst k0 k1 k2 k3 k4
 exact⟨(y0,y1,y2,y3,y4),rfl⟩
theorem open_ch {H:Type} {enc:TypeId × Value→H} {W:World} {r:Reach} {base:Nat} {v:Value} {d:DataW H} {p:List MemPlace} (hv:Value.okWide Tryz.prog W r base 41 v) (h:DataW.Trod enc Tryz.prog W 0 (fun _=>true) true 41 v d p) :
  ∃ (a:Option Addr) (n c:Nat) (F:Nat→Ch),v=.slice a n c∧ChL W a n F:=by
 obtain⟨a,n,c,rfl⟩:=okWide_slice Tryz.underlying41 hv
 obtain⟨fuel,hf⟩:=h
 rcases Go.Deep.open_slice Tryz.underlying41 hf with ⟨h1,-⟩ | ⟨a',len,cap,m,f,D,Pl,h1,-,hl,hmax,hm,-,hi⟩
 · have:=List.head_eq_of_cons_eq h1
   injection this with e1 e2 e3
   subst e1 e2 e3
   exact⟨none,0,0,fun _=>(0,0,⟨#[]⟩,⟨#[]⟩,⟨#[]⟩),rfl,by omega,fun k hk=>by omega⟩
 · have:=List.head_eq_of_cons_eq h1
   injection this with e1 e2 e3
   subst e1 e2 e3
   have e33:Tryz.prog.cellsOf 71=5:=by kernel_rfl
   have each:∀ k,k<n→∃ (x:Ch) (b o:Nat),a'=⟨b,o,none⟩∧b<W.heap.size∧ChAt W b (o+k*5) x:=fun k hk=>by
    obtain⟨cs,hc,ht⟩:=hi k (by rw[hm];split <;> omega)
    rw[e33] at hc
    obtain⟨_,hcl,hat⟩:=World.cells?_some hc
    obtain⟨y,rfl⟩:=open_chg hcl ht
    obtain⟨cs0,hc0,-⟩:=hi 0 (by rw[hm];split <;> omega)
    rw[e33] at hc0
    obtain⟨_,hcl0,hat0⟩:=World.cells?_some hc0
    have z0:=(hat0 0 (by omega)).trans (List.getElem?_eq_getElem (by omega:0<cs0.length))
    obtain⟨b,o,s⟩:=a'
    obtain rfl:s=none:=by
     have:=World.cell?_spot z0
     simpa [Addr.add] using this
    have q0:=hat 0 (by omega)
    have q1:=hat 1 (by omega)
    have q2:=hat 2 (by omega)
    have q3:=hat 3 (by omega)
    have q4:=hat 4 (by omega)
    rw[Addr.add_mid,Addr.add_mid] at q0 q1 q2 q3 q4
    refine⟨y,b,o,rfl,block_lt_of_cell q0,fun i u hu=>?_⟩
    have hi5:i<5:=(Array.getElem?_eq_some_iff.1 hu).1
    rcases (by omega:i=0∨i=1∨i=2∨i=3∨i=4) with rfl | rfl | rfl | rfl | rfl
    · exact q0.trans hu
    · exact q1.trans hu
    · exact q2.trans hu
    · exact q3.trans hu
    · exact q4.trans hu
   refine⟨some a',n,c,fun k=>if h:k<n then Classical.choose (each k h) else (0,0,⟨#[]⟩,⟨#[]⟩,⟨#[]⟩),rfl,by simp only[maxLen] at hmax;omega,fun k hk=>?_⟩
   obtain⟨b,o,ha,hlt,hE⟩:=Classical.choose_spec (each k hk)
   refine⟨b,o,by rw[ha],hlt,?_⟩
   simp only[dif_pos hk]
   exact hE
end Go.Proofs.YtdfdjfnfmibpjaaGreatDoor
end
section
/- The walk of RebuildReads: NoteOf and Notes return the results of the reference. -/
namespace Go.Proofs.YtdfdjfnfmibpjaaGreatDoor
open Go.RowKit
set_option maxHeartbeats 16000000
set_option maxRecDepth 8000
set_option linter.unusedSimpArgs false
theorem notesX_len (l:List Rw):∀ (cs done out:List Ch),(notesX l done cs out).1.length≤out.length+cs.length
 | [],done,out=>by rw[notesX];exact Nat.le_add_right _ _
 | c::cs,done,out=>by
   rw[notesX]
   split
   · have:=notesX_len l cs (done++[c]) out;simp only[List.length_cons];omega
   · split
     · have:=notesX_len l cs (done++[c]) out;simp only[List.length_cons];omega
     · generalize ntX l done c _=g
       obtain⟨s,code⟩:=g
       dsimp only
       split
       · exact Nat.zero_le _
       · rename_i y _ _ _
         have:=notesX_len l cs (done++[c]) (out++[(7,y.1.d0,⟨#[]⟩,s,y.1.vol)])
         simp only[List.length_append,List.length_cons,List.length_nil] at this ⊢
         omega
theorem shelf_newR (sv:Value) (l:List Rw) (w:World) (hr:RwS w sv l) (ho:∀ b,sv.ownBlock=some b→b<w.heap.size):SHs w (w.alloc (.cells #[sv,.int .i64 0,.int .i64 0,.int .i64 0] 68)) w.heap.size sv l 0 0 0:=by
 refine⟨⟨row_new _ _ _ _,fun o=>by simp⟩,hr.below ((Below.refl _ _).alloc (Nat.le_refl _) _),fun b hb e=>?_,Nat.le_refl _,by simp,(Below.refl _ _).alloc (Nat.le_refl _) _⟩
 have:=ho b hb
 omega
theorem SHs.grown_r {w0 w w':World} {p:Nat} {sv:Value} {l:List Rw} {fl cd ca:Int} (h:SHs w0 w p sv l fl cd ca) (hg:w.grownBy w' (some p)):RwS w' sv l :=
 h.r.keep hg.size (fun b hb hl=>hg.block b hl (fun e=>h.ne b hb (Option.some.inj e)))
theorem sh37 (a:Option Addr) (n c:Nat) (w:World):Calls Tryz.prog 41 #[.slice a n c] w fun r w'=>r=.returned (.pointer (some ⟨w.heap.size,0,none⟩))∧w.alloc (.cells #[.slice a n c,.int .i64 0,.int .i64 0,.int .i64 0] 68)=w':=by
 go_enter Tryz.func41,Tryz.ntmps41
 go_wp2_with fail
 go_ret
 exact⟨rfl,rfl⟩
theorem law_reads_yes (a0:Option Addr) (n0 c0:Nat) (L:List Rw) (name:ByteArray) (a2:Option Addr) (n2 c2:Nat) (cs:List Ch) (w:World) (hm:MaxL w) (hT:Tab w) (hS:RwS w (.slice a0 n0 c0) L) (hL:L.length≤16) (hC:ChS w (.slice a2 n2 c2) cs) (hcs:cs.length≤8)
  (hF:∀ W,Below w.heap.size w W→Calls Tryz.prog 20 #[.slice a0 n0 c0,.int .i64 16] W fun r w'=>∃ b:Bool,r=.returned (.bool b)∧w'=W) :
  Calls Tryz.prog 7 #[.slice a0 n0 c0,.string name,.slice a2 n2 c2] w fun r w'=>r=.returned (.bool true)∧Below w.heap.size w w':=by
 have HAW:=Lib.hid (fun W (b:Below w.heap.size w W)=>aw37 W (hm.below b) (hT.below b))
 have HF:=Lib.hid hF
 have HM:=Lib.hid hm
 have HTB:=Lib.hid hT
 have HC:=Lib.hid hC
 obtain⟨a2',c2',e2,hz2,hcell⟩:=hC
 injection e2 with e21 e22 e23
 subst e21 e22 e23
 have HCC:=Lib.hid hcell
 have hdl:=dst_len L L.length
 have HDI:=Lib.hid (fun W (b:Below w.heap.size w W)=>rdist (.slice a0 n0 c0) L W (by omega) (hS.below b))
 generalize dst L L.length=D at hdl HDI
 have HN1:=Lib.hid (fun p sv w0 W hm hT hS=>(nt_of p sv D 0 0 0 name w0 W hm hT hS (by decide) (by decide) (Or.inr (by decide))))
 have e1:=noteOfF_no D 0 0 0 name (by decide) (by decide)
 rw[e1] at HN1
 have HN2:=Lib.hid (fun sv W h=>r37_of sv D name W h)
 have HK1:=Lib.hid (fun p sv w0 W hm hT hS (hC:ChS w0 (.slice a2 cs.length c2) cs)=>re_notes p sv D 0 0 0 (.slice a2 cs.length c2) cs w0 W hm hT hS (by decide) (by decide) (by decide) (by omega) hC)
 have HK2:=Lib.hid (fun sv W h hC=>r37_notes sv D (.slice a2 cs.length c2) cs W h (by omega) hC)
 have hlen:=notesX_len D cs [] []
 generalize noteOfR D name=nr at HN1 HN2
 generalize notesX D [] cs []=R at HK1 HK2 hlen
 obtain⟨ns,nc⟩:=nr
 obtain⟨out,code⟩:=R
 dsimp only at HN1 HN2 HK1 HK2 hlen
 have l1:(ns.toList==ns.toList)=true:=by simp
 have l2:(nc==nc)=true:=by simp
 have l3:(code==code)=true:=by simp
 have hol:out.length≤1000000:=by simp only[List.length_nil] at hlen;omega
 obtain⟨q1,f1⟩:∃ b,decide (60<(name.size:Int))=b:=⟨_,rfl⟩
 have f2:decide (8<(cs.length:Int))=false:=decide_eq_false (by omega)
 clear e1 hdl hF hS hm hT hlen hcell
 cases q1
 rotate_left
 · go_enter Tryz.func7,Tryz.ntmps7
   go_wp2_with (first
    | (go_at_call 39;(with_reducible refine (HAW.out _ (Below.refl _ _)).mono ?_);rintro _ w1 ⟨rfl,b1⟩)
    | (go_at_call 20;(refine (HF.out _ b1).mono ?_);rintro _ w2 ⟨bb,rfl,rfl⟩;cases bb))
   all_goals
    go_ret
    exact⟨rfl,b1⟩
 go_enter Tryz.func7,Tryz.ntmps7
 go_wp2_with (first
  | (go_at_call 39;(with_reducible refine (HAW.out _ (Below.refl _ _)).mono ?_);rintro _ w1 ⟨rfl,b1⟩)
  | (go_at_call 20;(refine (HF.out _ b1).mono ?_);rintro _ w2 ⟨bb,rfl,rfl⟩;cases bb))
 · go_ret
   exact⟨rfl,b1⟩
 go_loopw [34] (fun i wr=>∃ k:Nat,k≤cs.length∧i=.int .i64 k∧Hid (Below w.heap.size w wr)) (fun i _=>cs.length - (intOf i).toNat)
 case atStart=>exact⟨0,Nat.zero_le _,rfl,Lib.hid b1⟩
 case round =>
  obtain⟨k,hk,rfl,HB⟩:=hrel
  by_cases hlt:k<cs.length
  · obtain⟨b,o,rfl,hb,hcell⟩:=HCC.out (by omega)
    have hcl:=fun i u hu=>(HB.out.cell (p:=⟨b,o+k*5+i,none⟩) hb).trans (hcell k hlt i u hu)
    generalize cs[k]=ck at hcl
    obtain⟨r0,r1,r2,r3,r4⟩:=ck
    have p0:wr.cell? ⟨b,o+k*5,none⟩=some (.int .i64 r0):=hcl 0 _ rfl
    have p1:wr.cell? ⟨b,o+k*5+1,none⟩=some (.int .i64 r1):=hcl 1 _ rfl
    have p2:wr.cell? ⟨b,o+k*5+2,none⟩=some (.string r2):=hcl 2 _ rfl
    have p3:wr.cell? ⟨b,o+k*5+3,none⟩=some (.string r3):=hcl 3 _ rfl
    have p4:wr.cell? ⟨b,o+k*5+4,none⟩=some (.string r4):=hcl 4 _ rfl
    have i1:(0:Int)≤(k:Int):=by omega
    have i2:(k:Int)<(cs.length:Int):=by omega
    obtain⟨t1,g1⟩:∃ b,decide (300<(r3.size:Int))=b:=⟨_,rfl⟩
    obtain⟨t2,g2⟩:∃ b,decide (60<(r2.size:Int))=b:=⟨_,rfl⟩
    clear hcl hcell
    cases t1
    · cases t2
      · go_wp2_with fail
        go_roundw
        case rel=>exact⟨k+1,by omega,by go_num,Lib.hid (HB.out.alloc HB.out.size _)⟩
        case measure=>simp [intOf];omega
      · go_wp2_with fail
        go_ret
        exact⟨rfl,HB.out.alloc HB.out.size _⟩
    · go_wp2_with fail
      go_ret
      exact⟨rfl,HB.out.alloc HB.out.size _⟩
  · obtain rfl:k=cs.length:=by omega
    go_wp2_with (first
     | (go_at_call 22;(refine (HDI.out _ HB.out).mono ?_);rintro _ w3 ⟨v3,rfl,hD,hDo,b3⟩;obtain⟨va,vc,rfl,-⟩:=_root_.id hD;have B3:=Lib.hid (bt HB.out b3);have S3:=Lib.hid (shelf_newR _ _ w3 hD (fun q hq=>(hDo q hq).2));have HDO:=Lib.hid (fun q hq=>(hDo q hq).2);clear hD hDo b3)
     | (go_at_call 41;have b6:=B5;clear b6;(with_reducible refine (sh37 _ _ _ _).mono ?_);rintro _ _ ⟨rfl,rfl⟩)
     | (go_at_call 41;(with_reducible refine (sh37 _ _ _ _).mono ?_);rintro _ _ ⟨rfl,rfl⟩)
     | (go_at_call 40;(refine (HN1.out _ _ w3 _ (HM.out.below B3.out) (HTB.out.below B3.out) S3.out).mono ?_);rintro _ w4 ⟨rfl,hs4,-⟩;have B4:=Lib.hid (bt B3.out hs4.b);have R4:=Lib.hid hs4.r;have z4:=hs4.b.size;clear hs4)
     | (go_at_call 42;(refine (HN2.out _ _ R4.out).mono ?_);rintro _ w5 ⟨rfl,b5⟩;have B5:=Lib.hid (bt B4.out b5);have S5:=Lib.hid (shelf_newR _ _ w5 (R4.out.below b5) (fun q hq=>Nat.lt_of_lt_of_le (HDO.out q hq) (Nat.le_trans z4 b5.size)));have z5:=b5.size;clear b5)
     | (go_at_call 43;(refine (HK1.out _ _ w5 _ (HM.out.below B5.out) (HTB.out.below B5.out) S5.out (HC.out.below B5.out)).mono ?_);rintro _ w6 ⟨ov,rfl,hown,hg6⟩;obtain⟨oa,oc,rfl⟩:=owns_sl hown;have B6:=Lib.hid (bt B5.out ((below_al' w5 _).trans (grown_below hg6 (Nat.le_refl w5.heap.size) (by simp))));have O6:=Lib.hid hown;have R6:=Lib.hid (S5.out.grown_r hg6);clear hown hg6)
     | (go_at_call 44;(refine (HK2.out _ _ R6.out (HC.out.below B6.out)).mono ?_);rintro _ w7 ⟨ov2,rfl,hown2,b7⟩;obtain⟨oa2,oc2,rfl⟩:=owns_sl hown2;have B7:=Lib.hid (bt B6.out b7);have C1:=Lib.hid (chs_of_cells hol (own_cells (own_keep O6.out (fun x hx=>b7.block x (own_base O6.out x hx).2))));have C2:=Lib.hid (chs_of_cells hol (own_cells hown2));clear hown2 b7)
     | (go_at_call 28;(refine (rchanges _ _ out _ C1.out C2.out).mono ?_);rintro _ w8 ⟨rfl,b8⟩;have B8:=Lib.hid (bt B7.out b8);clear b8))
    go_ret
    exact⟨rfl,B8.out⟩
theorem law_reads_no (a0:Option Addr) (n0 c0:Nat) (F:Nat→Rw) (name:ByteArray) (a2:Option Addr) (n2 c2:Nat) (w:World) (hm:MaxL w) (hT:Tab w) (hL:RwL w a0 n0 F) (h:¬ (n0≤16∧n2≤8)) :
  Calls Tryz.prog 7 #[.slice a0 n0 c0,.string name,.slice a2 n2 c2] w fun r w'=>r=.returned (.bool true)∧Below w.heap.size w w':=by
 have HAW:=Lib.hid (fun W (b:Below w.heap.size w W)=>aw37 W (hm.below b) (hT.below b))
 have HF:=Lib.hid (fun W (b:Below w.heap.size w W)=>rfew34 a0 n0 c0 F 16 W (hL.below b))
 obtain⟨q1,e1⟩:∃ b,decide (8<(n2:Int))=b:=⟨_,rfl⟩
 obtain⟨q2,e2⟩:∃ b,decide (60<(name.size:Int))=b:=⟨_,rfl⟩
 have HQ:Hid (q1=false→¬ n0≤16):=Lib.hid (by
  rintro rfl h2
  rw[decide_eq_false_iff_not] at e1
  exact h ⟨h2,by omega⟩)
 clear h
 cases q1
 · have HN:=Lib.hid (HQ.out rfl)
   clear HQ
   go_enter Tryz.func7,Tryz.ntmps7
   go_wp2_with (first
    | (go_at_call 39;(with_reducible refine (HAW.out _ (Below.refl _ _)).mono ?_);rintro _ w1 ⟨rfl,b1⟩)
    | (go_at_call 20;(refine (HF.out _ b1).mono ?_);rintro _ w2 ⟨bb,rfl,hf,rfl⟩;have HF2:=Lib.hid hf;clear hf;cases bb;rotate_left 1;exact absurd (by have:=(HF2.out rfl).1;omega) HN.out))
   go_ret
   exact⟨rfl,b1⟩
 · cases q2
   all_goals
    go_enter Tryz.func7,Tryz.ntmps7
    go_wp2_with (first
     | (go_at_call 39;(with_reducible refine (HAW.out _ (Below.refl _ _)).mono ?_);rintro _ w1 ⟨rfl,b1⟩)
     | (go_at_call 20;(refine (HF.out _ b1).mono ?_);rintro _ w2 ⟨bb,rfl,-,rfl⟩;cases bb))
    all_goals
     go_ret
     exact⟨rfl,b1⟩
theorem law_reads (a0:Option Addr) (n0 c0:Nat) (F:Nat→Rw) (name:ByteArray) (a2:Option Addr) (n2 c2:Nat) (G:Nat→Ch) (w:World) (hm:MaxL w) (hT:Tab w) (hL:RwL w a0 n0 F) (hG:ChL w a2 n2 G) :
  Calls Tryz.prog 7 #[.slice a0 n0 c0,.string name,.slice a2 n2 c2] w fun r w'=>r=.returned (.bool true)∧Below w.heap.size w w':=by
 by_cases h:n0≤16∧n2≤8
 · refine law_reads_yes a0 n0 c0 (rlst F n0) name a2 n2 c2 (clst G n2) w hm hT (hL.rws c0 (by omega)) (by rw[rlst_len];exact h.1) (hG.chs c2 (by omega)) (by rw[clst_len];exact h.2) fun W b=>?_
   refine (rfew34 a0 n0 c0 F 16 W (hL.below b)).mono ?_
   rintro r w' ⟨bb,rfl,-,rfl⟩
   exact⟨bb,rfl,rfl⟩
 · exact law_reads_no a0 n0 c0 F name a2 n2 c2 w hm hT hL h
end Go.Proofs.YtdfdjfnfmibpjaaGreatDoor
end
section
/- The statement RebuildReads: the walk, the frame of the row, the card. Conditions: none beyond the statement. -/
namespace Go.Proofs.YtdfdjfnfmibpjaaGreatDoor.rebuildReads
open Go.ChangeShapes Go.WideShapes Go.ChangeAt Go.RowKit Go.Proofs.YtdfdjfnfmibpjaaGreatDoor
open Go.ChangeMaps (open_string)
set_option maxRecDepth 100000 in
theorem contract (H:Type) (enc:TypeId × Value→H) (W:World) (base:Nat) (args:Array Value) (ds gs:List (DataW H)) (before:List MemPlace)
  (hval:∀ (j:Nat) t v,Tryz.f7.params[j]?=some t→args[j]?=some v→Value.okWide Tryz.prog W .any base t v)
  (hW:DataW.Whole enc Tryz.prog Tryz.f7.params.toList Rows.rebuildReadsSpec.vars false W args.toList ds gs before) (hL:laidMetH Tryz.prog Rows.rebuildReadsRow.laid W) (hS:W.ShapedOpen Tryz.prog) :
  Calls Tryz.prog 7 args W fun e W'=>∃ v,e=.returned v∧Rows.rebuildReadsSpec.post enc Tryz.prog Tryz.f7 false true false false W args v W':=by
 have hW':=hW
 have hlt:∀ x∈before,x.block<W.heap.size:=fun x hx=>by simpa using hW'.lt x hx
 obtain⟨p,q,hA0,hV,rfl,hfz,hnd⟩:=hW
 have hA:DataW.TrodAll enc Tryz.prog W 0 (fun _=>true) true Tryz.f7.params.toList args.toList ds p:=hA0
 have hK:=hA
 rw[Tryz.params7] at hA hval
 obtain⟨v0,vs0,d0,ds0,p0,q0,hargs,rfl,rfl,h0,r0⟩:=trodAll_cons hA
 obtain⟨v1,vs1,d1,ds1,p1,q1,rfl,rfl,rfl,h1,r1⟩:=trodAll_cons r0
 obtain⟨v2,vs2,d2,ds2,p2,q2,rfl,rfl,rfl,h2,r2⟩:=trodAll_cons r1
 obtain⟨rfl,rfl,rfl⟩:=trodAll_nil r2
 obtain rfl:args=#[v0,v1,v2]:=by cases args;simp_all
 obtain⟨rfl,rfl⟩:=trodVars_none hV
 obtain⟨a0,n0,c0,F0,rfl,o0⟩:=open_rw (hval 0 36 v0 rfl rfl) h0
 have hs1:=hval 1 9 v1 rfl rfl
 obtain⟨s1,rfl⟩:=okWide_string Tryz.underlying9 hs1
 obtain⟨a2,n2,c2,F2,rfl,o2⟩:=open_ch (hval 2 41 v2 rfl rfl) h2
 rw[MakeChecks.laidMetH_plain _ _ _ (by kernel_rfl)] at hL
 refine (law_reads a0 n0 c0 F0 _ a2 n2 c2 F2 W (max_of hS) (tab_of hL) o0 o2).mono fun e W' ⟨he,hb⟩=>?_
 subst he
 exact⟨_,rfl,_,_,_,[],_,[],hW',trodAll_cons_mk (shut_bool Tryz.underlying4 _) trodAll_mk0,args_below hb (by rw[Tryz.params7];kernel_rfl) hK (fun x hx=>hlt x (by simpa using hx)),rfl,hb.frame _,fun h=>by cases h⟩
theorem laid_met (os:Os):laidMetH Tryz.prog Rows.rebuildReadsRow.laid ((World.laidAll Tryz.prog os Rows.rebuildReadsRow.laid).forCall (fun _ _=>0) ⟨#[],#[(.slice none 0 0:Value),(.string ⟨#[]⟩:Value),(.slice none 0 0:Value)],[]⟩).memory:=by
 rw[MakeChecks.laidMetH_plain _ _ _ (by kernel_rfl)];exact laidMet_laidAll _ (by kernel_rfl) (by kernel_rfl)
theorem reads (os:Os) {H:Type} (enc:TypeId × Value→H):∃ places,DataW.whole enc Tryz.prog ((World.laidAll Tryz.prog os Rows.rebuildReadsRow.laid).forCall (fun _ _=>0) ⟨#[],#[(.slice none 0 0:Value),(.string ⟨#[]⟩:Value),(.slice none 0 0:Value)],[]⟩).memory Tryz.f7.params.toList Rows.rebuildReadsSpec.vars false #[(.slice none 0 0:Value),(.string ⟨#[]⟩:Value),(.slice none 0 0:Value)].toList 8=some ([.nil,.lit (.string []),.nil],[],places) :=
 ⟨[],by kernel_rfl⟩
set_option maxRecDepth 100000 in
theorem lifted (os:Os) (started:os.Started) (H:Type) (enc:TypeId × Value→H) (F:Stop.Interp) :
  ReturnsInHanded {} Tryz.checked os 7 .any ((OpenSpec.ofChange Rows.rebuildReadsSpec).preRow enc Tryz.prog Tryz.f7 Rows.rebuildReadsRow.domain false Rows.rebuildReadsRow.laid) (((OpenSpec.ofChange Rows.rebuildReadsSpec).at F).post enc Tryz.prog Tryz.f7 false true false false):=by
 obtain⟨places,hx⟩:=reads os enc
 refine returnsInHanded_of_row (C:=Tryz.checked) (s:=OpenSpec.ofChange Rows.rebuildReadsSpec) ownk started (by kernel_rfl) Tryz.func7
  (witness_lay (enc:=enc) (C:=Tryz.checked) false #[(.slice none 0 0:Value),(.string ⟨#[]⟩:Value),(.slice none 0 0:Value)] (World.shaped_of_ZipB (by kernel_rfl) (by kernel_rfl)) (by kernel_rfl)
    (OpenSpec.preRow_of_cond 8 hx (by kernel_rfl) (fun k hk=>by cases hk) (by kernel_rfl) (laid_met os))) ?_
 intro W base args ds gs before hval hW _ _ _ hL hS _
 exact contract H enc W base args ds gs before hval hW hL hS
theorem said:Rows.RebuildReadsSaid :=
 OpenClaim.holds_of_cond 7 Tryz.f7 rfl rfl rfl rfl rfl rfl rfl ⟨rfl,rfl,rfl,rfl,rfl⟩ rfl rfl rfl rfl rfl (by kernel_rfl) Tryz.func7 joined_rebuildReads
  (of_decide_eq_true (by kernel_rfl)) (by unfold Func.isWrapper;first | (rw[if_pos (by decide +kernel)];kernel_rfl) | (rw[if_neg (by decide +kernel)];exact⟨rfl,rfl⟩))
  (fun os started H enc _ F=>by rw[OpenClaim.pre_eq_preRow];exact lifted os started H enc F)
theorem plain (f:FuncId) (fn:Func) (hf:Tryz.pinned.checked.prog.funcNamed Rows.rebuildReadsRow.func=some f) (hfn:Tryz.pinned.checked.prog.funcs[f]?=some fn) :
  false=Tryz.pinned.checked.prog.looks []∧∀ (j:Nat) t,fn.params[j]?=some t→Tryz.pinned.checked.prog.wantsStandIn t=false:=by
 obtain rfl:f=7:=Option.some.inj ((show Tryz.prog.funcNamed Rows.rebuildReadsRow.func=some 7 by kernel_rfl).symm.trans hf) |>.symm
 obtain rfl:fn=Tryz.f7:=(Option.some.inj (Tryz.func7.symm.trans hfn)).symm
 refine⟨by kernel_rfl,fun j t ht=>?_⟩
 rw[Tryz.params7] at ht
 have hm:=Array.mem_of_getElem? ht
 have ha:(#[36,9,41]:Array TypeId).all (fun t=>!Tryz.prog.wantsStandIn t)=true:=by kernel_rfl
 have:=(Array.all_eq_true_iff_forall_mem.1 ha) t hm
 exact (show Tryz.prog.wantsStandIn t=false by simpa using this)
theorem card:Rows.RebuildReadsCardSaid :=
 Claim7.holds_tied_plain_at .later [] _ _ _ _ said (fun _ h=>by cases h) (by kernel_rfl) (fun _ h=>by cases h) rebuildReads_row_tie rfl ⟨rfl,rfl⟩ (by kernel_rfl) rfl plain (by kernel_rfl)
end Go.Proofs.YtdfdjfnfmibpjaaGreatDoor.rebuildReads
end
