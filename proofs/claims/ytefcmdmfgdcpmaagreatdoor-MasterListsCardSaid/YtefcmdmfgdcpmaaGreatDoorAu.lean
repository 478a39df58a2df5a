/- Catalogs. -/
import Derived.Test.YtefcmdmfgdcpmaaGreatDoorOd
import Derived.Test.YtefcmdmfgdcpmaaGreatDoorYr
set_option maxRecDepth 8000
set_option maxHeartbeats 16000000
namespace Go.Proofs.YtefcmdmfgdcpmaaGreatDoor
theorem znh{x y:Rw}(h:zeR x y=false):zeR y x=false:=by
 have e:zeR y x=zeR x y:=by unfold zeR;rw[decide_eq_decide.2 (eq_comm:y.1=x.1↔x.1=y.1),decide_eq_decide.2 (eq_comm:kyR y=kyR x↔kyR x=kyR y)]
 rw[e,h]
theorem zcM(x:Rw)(out:List Rw):(zeu x out).Perm (x::out):=by
 have e:out.takeWhile (zdb x)++out.dropWhile (zdb x)=out:=List.takeWhile_append_dropWhile;unfold zeu;refine List.perm_middle.trans ?_
 rw[e]
theorem zcX{a b:List Rw}(p:a.Perm b)(h:DstL b):DstL a:=(List.Perm.pairwise_iff (fun h=>znh h) p).2 h
theorem zos{x:Rw}{out:List Rw}(h:DstL out)(hx:∀ y∈out,zeR x y=false):DstL (zeu x out):=zcX (zcM x out) (List.pairwise_cons.2 ⟨hx,h⟩)
theorem zf7:∀ (l o:List Rw),(l.foldl (fun o x=>zeu x o) o).Perm (l++o)
 | [],o=>List.Perm.refl _
 | x::l,o=>by
   rw[List.foldl_cons];refine (zf7 l (zeu x o)).trans ?_
   exact ((zcM x o).append_left l).trans (List.perm_middle)
theorem zbB(l:List Rw):(zcl l).Perm l:=by
 have:=zf7 l [];rwa [List.append_nil] at this
theorem zdD{D:List Rw}(c:Ch)(h:DstL D):DstL (apS D c):=by
 have h1:DstL (zba c D):=List.Pairwise.filter _ h;unfold apS;split
 · refine zos h1 fun y hy=>?_
   have h2:=(List.mem_filter.1 hy).2;unfold zeR;rw[Bool.eq_false_iff];intro h3;rw[Bool.and_eq_true,decide_eq_true_eq,decide_eq_true_eq] at h3
   have h4:znF c y=true:=by
    unfold znF;rw[Bool.and_eq_true,decide_eq_true_eq,decide_eq_true_eq];exact⟨h3.1.symm,(Ds.bl_inj h3.2).symm⟩
   rw[h4] at h2;cases h2
 · exact h1
theorem zcE{D:List Rw}(cs:List Ch)(h:DstL D):DstL (apl D cs):=by
 have:∀ (l:List Ch) (o:List Rw),DstL o->DstL (l.foldl apS o):=by
  intro l
  induction l with
  | nil=>intro o ho;exact ho
  | cons c l ih=>intro o ho;rw[List.foldl_cons];exact ih _ (zdD c ho)
 exact this cs _ (zcX (zbB D) h)
theorem zqP{P:Rw->Prop}{D:List Rw}{c:Ch}(h:∀ x∈D,P x)(hc:P (c.2.1,c.2.2.1,c.2.2.2.1)):∀ x∈apS D c,P x:=by
 intro x hx;unfold apS at hx;split at hx
 · rcases List.mem_cons.1 ((zcM _ _).subset hx) with rfl|hx
   · exact hc
   · exact h x (List.mem_filter.1 hx).1
 · exact h x (List.mem_filter.1 hx).1
theorem zqV{P:Rw->Prop}{D:List Rw}{cs:List Ch}(h:∀ x∈D,P x)(hc:∀ c∈cs,P (c.2.1,c.2.2.1,c.2.2.2.1)):∀ x∈apl D cs,P x:=by
 have:∀ (l:List Ch) (o:List Rw),(∀ c∈l,P (c.2.1,c.2.2.1,c.2.2.2.1))->(∀ x∈o,P x)->∀ x∈l.foldl apS o,P x:=by
  intro l
  induction l with
  | nil=>intro o _ ho;exact ho
  | cons c l ih=>intro o hl ho;rw[List.foldl_cons];exact ih _ (fun c' h'=>hl c' (by simp [h'])) (zqP ho (hl c (by simp)))
 exact this cs _ hc (fun x hx=>h x ((zbB D).subset hx))
theorem zgL(k:Int)(s:ByteArray):(zaT k s).size<=32:=by
 rw[<-Ds.bl_length,zbD];unfold Ek.key;split
 · rename_i h;rw[List.length_cons,Ek.pad_len _ h.2];omega
 · simp
def Kz(g:List Ch × Int):Prop:=∀ c∈g.1,c.2.2.1.size<=32
theorem Kz.nil(e:Int):Kz ([],e):=fun _ h=>by cases h
theorem Kz.one{c:Ch}{e:Int}(h:c.2.2.1.size<=32):Kz ([c],e):=fun d hd=>by rw[List.mem_singleton.1 hd];exact h
theorem zj8(id:Int)(x:Fu):(zby id x).2.2.1.size<=32:=zgL _ _
theorem zjB(id:Int)(x:Fu):(zbf id x).2.2.1.size<=32:=zgL _ _
theorem Kz.ite{p:Prop}[Decidable p]{a b:List Ch × Int}(h1:Kz a)(h2:Kz b):Kz (if p then a else b):=by split <;> assumption
theorem zoQ(l:List Rw)(k i:Int)(x:Fu)(s:ByteArray):Kz (opR l k i x s):=by
 have hrem:∀ id kind name,Kz (zna l id kind name):=fun id kind name=>by
  unfold zna;refine Kz.ite (Kz.nil _) (Kz.ite (Kz.nil _) (Kz.ite (Kz.ite (Kz.nil _) ?_) (Kz.one (zjB _ _))))
  intro c hc;rcases List.mem_append.1 hc with hc|hc
  · obtain⟨a,-,rfl⟩:=List.mem_map.1 hc;exact zjB _ _
  · rw[List.mem_singleton.1 hc];exact zjB _ _
 have hren:∀ id name tn,Kz (zk8 l id name tn):=fun id name tn=>by
  unfold zk8;refine Kz.ite (Kz.nil _) (Kz.ite (Kz.nil _) (Kz.ite (Kz.nil _) (Kz.ite (Kz.nil _) (Kz.ite (Kz.nil _) ?_))))
  intro c hc;unfold zql at hc;rcases List.mem_cons.1 hc with rfl|hc
  · exact zjB _ _
  rcases List.mem_cons.1 hc with rfl|hc
  · exact zj8 _ _
  obtain⟨a,-,rfl⟩:=List.mem_map.1 hc;exact zj8 _ _
 unfold opR;refine Kz.ite ?_ (Kz.ite ?_ (Kz.ite ?_ (Kz.ite ?_ ?_)))
 · unfold zpN zpC;exact Kz.ite (Kz.ite (Kz.nil _) (Kz.ite (Kz.ite (Kz.nil _) (Kz.ite (Kz.nil _) (Kz.ite (Kz.nil _) (Kz.one (zj8 _ _))))) (Kz.nil _))) (Kz.nil _)
 · unfold zhU;exact Kz.ite (Kz.nil _) (hrem _ _ _)
 · unfold zhV;exact Kz.ite (Kz.nil _) (Kz.ite (Kz.nil _) (Kz.ite (Kz.nil _) (Kz.ite (Kz.nil _) (hren _ _ _))))
 · unfold zpH;exact Kz.ite (Kz.nil _) (Kz.ite (Kz.nil _) (Kz.ite (Kz.nil _) (Kz.ite (Kz.nil _) (Kz.ite (Kz.nil _) (Kz.one (zj8 _ _))))))
 · unfold zk5;exact Kz.ite (Kz.nil _) (Kz.ite (Kz.nil _) (Kz.ite (Kz.nil _) (Kz.one (zgL _ _))))
def Lz(n:Nat)(g:List Ch × Int):Prop:=g.1.length<=n
theorem Lz.nil(n:Nat)(e:Int):Lz n ([],e):=Nat.zero_le _
theorem Lz.one{n:Nat}(h:1<=n)(c:Ch)(e:Int):Lz n ([c],e):=h
theorem Lz.ite{n:Nat}{p:Prop}[Decidable p]{a b:List Ch × Int}(h1:Lz n a)(h2:Lz n b):Lz n (if p then a else b):=by split <;> assumption
theorem ziZ(l:List Rw)(k i:Int)(x:Fu)(s:ByteArray):Lz (l.length+2) (opR l k i x s):=by
 have one:1<=l.length+2:=by omega
 have hrem:∀ id kind name,Lz (l.length+2) (zna l id kind name):=fun id kind name=>by
  unfold zna;refine Lz.ite (Lz.nil _ _) (Lz.ite (Lz.nil _ _) (Lz.ite (Lz.ite (Lz.nil _ _) ?_) (Lz.one one _ _)))
  have:=zjk l id name;show (List.map (zbf id) (zeW l id name).1++[_]).length<=_
  rw[List.length_append,List.length_map,List.length_singleton];omega
 have hren:∀ id name tn,Lz (l.length+2) (zk8 l id name tn):=fun id name tn=>by
  unfold zk8;refine Lz.ite (Lz.nil _ _) (Lz.ite (Lz.nil _ _) (Lz.ite (Lz.nil _ _) (Lz.ite (Lz.nil _ _) (Lz.ite (Lz.nil _ _) ?_))))
  have:=zjk l id name;show (zql id _ tn (zeW l id name).1).length<=_
  unfold zql;rw[List.length_cons,List.length_cons,List.length_map];omega
 unfold opR;refine Lz.ite ?_ (Lz.ite ?_ (Lz.ite ?_ (Lz.ite ?_ ?_)))
 · unfold zpN zpC;exact Lz.ite (Lz.ite (Lz.nil _ _) (Lz.ite (Lz.ite (Lz.nil _ _) (Lz.ite (Lz.nil _ _) (Lz.ite (Lz.nil _ _) (Lz.one one _ _)))) (Lz.nil _ _))) (Lz.nil _ _)
 · unfold zhU;exact Lz.ite (Lz.nil _ _) (hrem _ _ _)
 · unfold zhV;exact Lz.ite (Lz.nil _ _) (Lz.ite (Lz.nil _ _) (Lz.ite (Lz.nil _ _) (Lz.ite (Lz.nil _ _) (hren _ _ _))))
 · unfold zpH;exact Lz.ite (Lz.nil _ _) (Lz.ite (Lz.nil _ _) (Lz.ite (Lz.nil _ _) (Lz.ite (Lz.nil _ _) (Lz.ite (Lz.nil _ _) (Lz.one one _ _)))))
 · unfold zk5;exact Lz.ite (Lz.nil _ _) (Lz.ite (Lz.nil _ _) (Lz.ite (Lz.nil _ _) (Lz.one one _ _)))
abbrev Zo:=Int × Int × Fu × ByteArray
def opS(R:List Rw)(z:Zo):List Rw:=if (opR R z.1 z.2.1 z.2.2.1 z.2.2.2).2=0 then apl R (opR R z.1 z.2.1 z.2.2.1 z.2.2.2).1 else R
def zcW(Z:Nat->Zo):Nat->List Rw
 | 0=>[]
 | k+1=>opS (zcW Z k) (Z k)
theorem zux{R:List Rw}(z:Zo)(h:DstL R∧∀ x∈R,x.2.1.size<=60):DstL (opS R z)∧∀ x∈opS R z,x.2.1.size<=60:=by
 unfold opS;split
 · exact⟨zcE _ h.1,zqV h.2 fun c hc=>Nat.le_trans (zoQ R _ _ _ _ c hc) (by decide)⟩
 · exact h
theorem zdM(Z:Nat->Zo):∀ n,DstL (zcW Z n)∧∀ x∈zcW Z n,x.2.1.size<=60
 | 0=>⟨List.Pairwise.nil,fun _ h=>by cases h⟩
 | k+1=>zux (Z k) (zdM Z k)
theorem zss(R:List Rw)(z:Zo):(opS R z).length<=2*R.length+2:=by
 have h1:=ziZ R z.1 z.2.1 z.2.2.1 z.2.2.2;unfold Lz at h1;unfold opS;split
 · have:=ziu R (opR R z.1 z.2.1 z.2.2.1 z.2.2.2).1;omega
 · omega
theorem zkk(Z:Nat->Zo):∀ n,(zcW Z n).length+2<=2 ^ (n+1)
 | 0=>by simp [zcW]
 | k+1=>by
   have h1:=zkk Z k;have h2:=zss (zcW Z k) (Z k);rw[zcW,Nat.pow_succ];omega
theorem zuF(Z:Nat->Zo){n:Nat}(h:n<=8):(zcW Z n).length<=510:=by
 have h1:=zkk Z n;have h2:2 ^ (n+1)<=2 ^ 9:=Nat.pow_le_pow_right (by decide) (by omega);have h3:(2:Nat) ^ 9=512:=by decide
 omega
section
open Go.RowKit
set_option linter.unusedSimpArgs false
theorem sh36(a:Option Addr)(n c:Nat)(w:World):Calls Tryz.prog 11 #[.slice a n c] w fun r w'=>r=.returned (.pointer (some ⟨w.heap.size,0,none⟩))∧w.alloc (.cells #[.slice a n c,.int .i64 0,.int .i64 0,.int .i64 0] 68)=w':=by
 go_enter Tryz.func11,Tryz.ntmps11
 go_wp2_with fail
 go_ret
 exact⟨rfl,rfl⟩
theorem zb9(sv:Value)(l:List Rw)(w:World)(hr:RwS w sv l)(ho:∀ b,sv.ownBlock=some b->b<w.heap.size):SHs w (w.alloc (.cells #[sv,.int .i64 0,.int .i64 0,.int .i64 0] 68)) w.heap.size sv l 0 0 0:=by
 refine⟨⟨zai _ _ _ _,fun o=>by simp⟩,hr.below ((Below.refl _ _).alloc (Nat.le_refl _) _),fun b hb e=>?_,Nat.le_refl _,by simp,(Below.refl _ _).alloc (Nat.le_refl _) _⟩
 have:=ho b hb;omega
theorem zow{w:World}{al:Value}{l:List Int}(h:IS w al l)(h0:0<l.length)(q:Nat)(hq:al.ownBlock=some q):q<w.heap.size:=by
 obtain⟨a,c,rfl,-,hc⟩:=h;obtain⟨b,o,rfl,hb,-⟩:=hc h0;cases hq;exact hb
theorem zor{w:World}{al:Value}{l:List Gr}(h:GS w al l)(h0:0<l.length)(q:Nat)(hq:al.ownBlock=some q):q<w.heap.size:=by
 obtain⟨a,c,rfl,-,hc⟩:=h;obtain⟨b,o,rfl,hb,-⟩:=hc h0;cases hq;exact hb
theorem zpO(sv:Value)(R:List Rw)(k i:Int)(x:Fu)(s:ByteArray)(al gr:Value)(w:World)(hm:MaxL w)(hT:Tab w)(hr:RwS w sv R)(ho:∀ b,sv.ownBlock=some b->b<w.heap.size)(hd:DstL R)(hl:R.length<=1000)(hkz:∀ x∈R,x.2.1.size<=60)(hsz:x.1.name.size<=60)(hss:s.size<=60)(hI:IS w al x.2.1)(hG:GS w gr x.2.2) :
  Calls Tryz.prog 22 #[.iface 31 (.pointer (some ⟨w.heap.size,0,none⟩)),.agg (opv k i x.1 al gr s)] (w.alloc (.cells #[sv,.int .i64 0,.int .i64 0,.int .i64 0] 68)) fun r w'=>∃ ov,r=.returned (.tuple #[ov,.int .i64 (opR R k i x s).2])∧ChS w' ov (opR R k i x s).1∧RwS w' sv R∧Below w.heap.size w w':=by
 have hb:=zab w (.cells #[sv,.int .i64 0,.int .i64 0,.int .i64 0] 68);refine (do36 w.heap.size sv R 0 0 0 k i x s al gr w _ hm hT (zb9 sv R w hr ho) (fun b e=>Nat.lt_of_lt_of_le (ho b e) hb.size) hl (fun y hy=>Nat.le_trans (hkz y hy) (by decide)) (Int.le_refl _) (by decide) (.inr (Int.le_refl _)) (by omega) (by omega) (hI.below hb) (hG.below hb) (fun h0 q hq=>by have:=zow hI h0 q hq;omega) (fun h0 q hq=>by have:=zor hG h0 q hq;omega)).mono ?_
 rintro _ w' ⟨ov,rfl,hc,hs,-⟩;rw[zuw R 0 0 0 k i x s (Int.le_refl _) (Int.le_refl _) hd] at hc ⊢;exact⟨ov,rfl,hc,hs.r,hs.b⟩
def OL(w:World)(a:Option Addr)(n:Nat)(Z:Nat->Zo):Prop:=∀ k,k<n->∃ b o al gr,a=some ⟨b,o,none⟩∧b<w.heap.size∧zfX w b (o+k*36)=opv (Z k).1 (Z k).2.1 (Z k).2.2.1.1 al gr (Z k).2.2.2∧IS w al (Z k).2.2.1.2.1∧GS w gr (Z k).2.2.1.2.2∧(Z k).2.2.1.1.name.size<=60∧(Z k).2.2.2.size<=60
theorem OL.below{w w':World}{a:Option Addr}{n:Nat}{Z:Nat->Zo}(h:OL w a n Z)(hb:Below w.heap.size w w'):OL w' a n Z:=fun k hk=>by
 obtain⟨b,o,al,gr,h1,h2,h3,h4,h5,h6⟩:=h k hk;exact⟨b,o,al,gr,h1,Nat.lt_of_lt_of_le h2 hb.size,zgc hb h3 (by rw[zbi];decide),h4.below hb,h5.below hb,h6⟩
attribute [local go_sem ↓] zoy zu0
attribute [local go_sem] zav zap zal zaI zaJ zae zaq zai zaw zao zas zan zbi zaj zaf zaA zax zak zag zar zaG
theorem run36(a:Option Addr)(n c:Nat)(Z:Nat->Zo)(w:World)(hn:n<=8)(hm:MaxL w)(hT:Tab w)(hF:OL w a n Z) :
  Calls Tryz.prog 9 #[.slice a n c] w fun r w'=>∃ v',r=.returned v'∧RwS w' v' (zcW Z n)∧(∀ q,v'.ownBlock=some q->q<w'.heap.size)∧Below w.heap.size w w':=by
 have HF:=lh hF;have HM:=lh (fun W (b:Below w.heap.size w W)=>And.intro (hm.below b) (hT.below b));clear hF hm hT;go_enter Tryz.func9,Tryz.ntmps9
 go_wp2_with fail
 go_loopw [3,10] (fun v i wr=>∃ (k:Nat),k<=n∧i=.int .i64 k∧Hid (RwS wr v (zcW Z k))∧Hid (∀ q,v.ownBlock=some q->q<wr.heap.size)∧Hid (Below w.heap.size w wr)) (fun _ i _=>n - (intOf i).toNat)
 case atStart=>exact⟨0,Nat.zero_le _,rfl,lh ⟨none,0,rfl,by simp [zcW],fun h=>by simp [zcW] at h⟩,lh (fun q hq=>by cases hq),lh (Below.refl _ _)⟩
 case round =>
  obtain⟨k,hk,rfl,HR,HQ,HB⟩:=hrel;obtain⟨va,vc,rfl,-⟩:=_root_.id HR.out;have hml:=zuF Z (n:=k) (by omega);obtain⟨hd,hkz⟩:=zdM Z k;have hstep:zcW Z (k+1)=opS (zcW Z k) (Z k):=rfl;unfold opS at hstep;by_cases hlt:k<n
  · obtain⟨b,o,al,gr,rfl,hb,hmid,hI,hG,hsz,hss⟩:=(HF.out.below HB.out) k hlt;generalize zcW Z k=D at hml hd hkz hstep HR HQ ⊢;generalize Z k=z at hmid hI hG hsz hss hstep;obtain⟨zk,zi,x,s⟩:=z;dsimp only at hmid hI hG hsz hss hstep;have hone:=zfz (k:=zk) (i:=zi) (s:=s) (zau x.1 al gr (zaP hI) (zaO hG));have hz36:(zfX wr b (o+k*36)).size=36:=by rw[hmid];exact zbi _ _ _ _ _ _
    have j1:(0:Int)<=(k:Int):=by omega
    have j2:(k:Int)<(n:Int):=by omega
    have hdo:=fun W (b:Below wr.heap.size wr W)=>zpO (.slice va D.length vc) D zk zi x s al gr W (HM.out W (bt HB.out b)).1 (HM.out W (bt HB.out b)).2 (HR.out.below b) (fun q hq=>Nat.lt_of_lt_of_le (HQ.out q hq) b.size) hd (by omega) hkz hsz hss (hI.below b) (hG.below b)
    have hcl:=ziZ D zk zi x s;unfold Lz at hcl;generalize opR D zk zi x s=g at hdo hstep hcl;obtain⟨cs,code⟩:=g;dsimp only at hdo hstep hcl
    have HDO:=lh hdo;have HST:=lh hstep;generalize hcv:opv zk zi x.1 al gr s=cv at hmid hone HDO;have hcs:cv.size=36:=by rw[<-hcv];exact zbi _ _ _ _ _ _
    clear hdo hstep hI hG hsz hss hd hkz hcv;have R0:=zai wr cv 59 (0,0);go_upto_region 5 with fail
    generalize hW1:wr.alloc (.cells cv 59)=W1 at R0 ⊢;have B1:=lh (show Below wr.heap.size wr W1 by rw[<-hW1];exact zab _ _);clear hW1;refine wp_region_held_drew (S:=fun w'=>row w' wr.heap.size=cv) (by kernel_rfl) R0 (fun hHeld=>?_)
    (refine rgy (i:=0) (some 15) ?_;(try simp only[Act.put,pz]))
    (refine zqn (i:=3) (some 18) (v:=.agg (cv)) rfl rfl (by kernel_rfl) (by kernel_rfl) (by kernel_rfl) (fun _ _ _ h=>h) (by kernel_rfl) (fun wS hSw=>?_) (by assumption) ?_;focus (exact (zvl _ wS _ _ _ _ _ _ rfl (by show (row wS (wr.heap.size)).size=36;rw[hSw];exact hcs)).trans (by show Result.ok (Next.value (.agg (row wS (wr.heap.size)))) wS=_;rw[hSw]));(try simp only[Act.put,pz]))
    refine rgb (i:=1) (by kernel_rfl) rfl (fun K hK=>?_)
    go_simp
    go_at_call 11
    refine (sh36 _ _ _ _).mono ?_
    rintro _ _ ⟨rfl,rfl⟩;refine hK.out _ _ (zaB (zab W1.drew _) R0 (by rw[hcs];decide)) (fun hHeld=>?_)
    (clear hK K;(try simp only[Act.put,pz]))
    (refine rgy (i:=2) (some 17) ?_;(try simp only[Act.put,pz]))
    refine rgb (i:=4) (by kernel_rfl) rfl (fun K hK=>?_)
    go_simp
    go_at_call 22
    refine (HDO.out W1.drew B1.out.drew).mono ?_
    rintro _ w5 ⟨ov,rfl,hc,hr5,hb5⟩;have b5:Below W1.heap.size W1 w5:=(Below.refl W1.heap.size W1).drew.trans hb5;have R5:=zaB b5 R0 (by rw[hcs];decide);refine hK.out _ _ R5 (fun hHeld=>?_)
    (clear hK K;(try simp only[Act.put,pz]))
    (refine rgy (i:=5) (some 14) ?_;(try simp only[Act.put,pz]))
    (refine rgy (i:=6) (some 20) ?_;(try simp only[Act.put,pz]))
    (refine rgy (i:=7) (some 21) ?_;(try simp only[Act.put,pz]))
    (refine rgy (i:=8) (some 6) ?_;(try simp only[Act.put,pz]))
    (refine rgy (i:=9) (some 7) ?_;(try simp only[Act.put,pz]))
    refine wpAnyH_done (by kernel_rfl) ?_ _
    have HC:=lh hc;have HR5:=lh hr5;have HB5:=lh (bt HB.out (bt B1.out b5));have HQ5:=lh (fun q hq=>Nat.lt_of_lt_of_le (HQ.out q hq) (Nat.le_trans B1.out.size b5.size));clear hc hr5 hb5 b5 R5 hHeld R0;by_cases h0:code=0
    rotate_left
    · have t1:(code==0)=false:=beq_eq_false_iff_ne.2 h0;have HS2:Hid (zcW Z (k+1)=D):=lh (by rw[HST.out,if_neg h0]);clear h0;go_wp2_with fail
      go_roundw
      case rel=>exact⟨k+1,by omega,by go_num,lh (by rw[HS2.out];exact HR5.out),HQ5,HB5⟩
      case measure=>simp [intOf];omega
    have t1:(code==0)=true:=beq_iff_eq.2 h0;have HS2:Hid (zcW Z (k+1)=apl D cs):=lh (by rw[HST.out,if_pos h0]);obtain⟨ca,cc,rfl,-⟩:=_root_.id HC.out;have HAP:=lh (zhZ (.slice va D.length vc) D (.slice ca cs.length cc) cs w5 HR5.out HC.out (by omega) (by omega));clear h0;go_wp2_with (go_at_call 24;(refine HAP.out.mono ?_);rintro _ w6 ⟨v6,rfl,hr6,ho6,hb6⟩;have HR6:=lh hr6;have HQ6:=lh (fun q hq=>(ho6 q hq).2);have HB6:=lh (bt HB5.out hb6);clear hr6 ho6 hb6)
    go_roundw
    case rel=>exact⟨k+1,by omega,by go_num,lh (by rw[HS2.out];exact HR6.out),HQ6,HB6⟩
    case measure=>simp [intOf];omega
  · obtain rfl:k=n:=by omega
    go_wp2_with fail
    go_ret
    exact⟨_,rfl,HR.out,HQ.out,HB.out⟩
end
/-! records in rows whose places differ -/
theorem zds{id:Int}{key s:ByteArray}:∀ {l:List Rw},zbS id key l=some s->(id,key,s)∈l
 | [],h=>by cases h
 | x::l,h=>by
   rw[zbS] at h;split at h
   · rename_i hx;obtain⟨a,b,c⟩:=x;obtain⟨h1,h2⟩:=hx;dsimp only at h1 h2 h;cases h
     rw[h1,h2];exact List.mem_cons_self
   · exact List.mem_cons_of_mem _ (zds h)
theorem zg1{id:Int}{key s:ByteArray}:∀ {l:List Rw},DstL l->(id,key,s)∈l->zbS id key l=some s
 | [],_,h=>by cases h
 | x::l,hd,h=>by
   obtain⟨h1,h2⟩:=List.pairwise_cons.1 hd;rw[zbS];rcases List.mem_cons.1 h with e|h
   · rw[<-e,if_pos ⟨rfl,rfl⟩]
   · have:=h1 _ h;rw[if_neg]
     · exact zg1 h2 h
     · rintro ⟨e1,e2⟩;unfold zeR at this;rw[decide_eq_true (by exact e1),decide_eq_true (by show Ds.bl x.2.1=Ds.bl key;rw[e2])] at this;cases this
theorem zh7{id:Int}{key:ByteArray}{a b:List Rw}(p:a.Perm b)(h:DstL b):zbS id key a=zbS id key b:=by
 have ha:DstL a:=zcX p h
 cases e:zbS id key b with
 | some s=>exact zg1 ha (p.mem_iff.2 (zds e))
 | none =>
   cases e2:zbS id key a with
   | none=>rfl
   | some s=>rw[zg1 h (p.mem_iff.1 (zds e2))] at e;cases e
theorem zh8{id:Int}{key:ByteArray}(c:Ch):∀ (l:List Rw),zbS id key (zba c l)=if c.2.1=id∧c.2.2.1=key then none else zbS id key l
 | []=>by unfold zba zbS;simp
 | x::l=>by
   have ih:=zh8 (id:=id) (key:=key) c l;unfold zba at ih ⊢;rw[List.filter_cons,zbS];by_cases hc:znF c x=true
   · rw[if_neg (by rw[hc];simp),ih];unfold znF at hc;rw[Bool.and_eq_true,decide_eq_true_eq,decide_eq_true_eq] at hc;by_cases h:c.2.1=id∧c.2.2.1=key
     · rw[if_pos h,if_pos h]
     · rw[if_neg h,if_neg h,if_neg (fun q=>h ⟨hc.1.symm.trans q.1,hc.2.symm.trans q.2⟩)]
   · rw[if_pos (by rw[Bool.eq_false_iff.2 hc];rfl),zbS,ih];unfold znF at hc;rw[Bool.and_eq_true,decide_eq_true_eq,decide_eq_true_eq] at hc;by_cases hx:x.1=id∧x.2.1=key
     · rw[if_pos hx,if_pos hx,if_neg (fun q=>hc ⟨hx.1.trans q.1.symm,hx.2.trans q.2.symm⟩)]
     · rw[if_neg hx,if_neg hx]
theorem zeb{id:Int}{key:ByteArray}{R:List Rw}(h:DstL R)(c:Ch):zbS id key (apS R c)=if c.2.1=id∧c.2.2.1=key then (if c.1=0 then some c.2.2.2.1 else none) else zbS id key R:=by
 have hd:=zdD c h;have hr:=zh8 (id:=id) (key:=key) c R;unfold apS at hd ⊢;by_cases h0:c.1=0
 · rw[if_pos h0] at hd;have p:=zcM (c.2.1,c.2.2.1,c.2.2.2.1) (zba c R);have h2:DstL ((c.2.1,c.2.2.1,c.2.2.2.1)::zba c R):=zcX p.symm hd;rw[if_pos h0,zh7 p h2,zbS,hr];by_cases h1:c.2.1=id∧c.2.2.1=key
   · rw[if_pos h1,if_pos h1,if_pos h0]
   · rw[if_neg h1,if_neg h1,if_neg h1]
 · rw[if_neg h0,hr];by_cases h1:c.2.1=id∧c.2.2.1=key
   · rw[if_pos h1,if_pos h1,if_neg h0]
   · rw[if_neg h1,if_neg h1]
theorem zo8{id:Int}{key:ByteArray}{D:List Rw}(h:DstL D):zbS id key (apl D [])=zbS id key D:=zh7 (zbB D) h
theorem zcd{id:Int}{key:ByteArray}{D:List Rw}(h:DstL D){cs:List Ch}(hc:∀ c∈cs,¬ (c.2.1=id∧c.2.2.1=key)):zbS id key (apl D cs)=zbS id key D:=by
 have:∀ (l:List Ch) (o:List Rw),DstL o->(∀ c∈l,¬ (c.2.1=id∧c.2.2.1=key))->zbS id key (l.foldl apS o)=zbS id key o:=by
  intro l
  induction l with
  | nil=>intro o _ _;rfl
  | cons c l ih =>
    intro o ho hl;rw[List.foldl_cons,ih _ (zdD c ho) (fun d hd=>hl d (List.mem_cons_of_mem _ hd)),zeb ho,if_neg (hl c List.mem_cons_self)]
 exact (this cs _ (zcX (zbB D) h) hc).trans (zo8 h)
theorem zki{id:Int}{key r:ByteArray}{D:List Rw}(h:DstL D){a b:List Ch}{v:ByteArray}(hb:∀ c∈b,¬ (c.2.1=id∧c.2.2.1=key)):zbS id key (apl D (a++(0,id,key,r,v)::b))=some r:=by
 have:∀ (l:List Ch) (o:List Rw),DstL o->(∀ c∈l,¬ (c.2.1=id∧c.2.2.1=key))->zbS id key (l.foldl apS o)=zbS id key o:=by
  intro l
  induction l with
  | nil=>intro o _ _;rfl
  | cons c l ih =>
    intro o ho hl;rw[List.foldl_cons,ih _ (zdD c ho) (fun d hd=>hl d (List.mem_cons_of_mem _ hd)),zeb ho,if_neg (hl c List.mem_cons_self)]
 have ha:=zcE a h
 have e:apl D (a++(0,id,key,r,v)::b)=b.foldl apS (apS (apl D a) (0,id,key,r,v)):=by
  unfold apl;rw[List.foldl_append,List.foldl_cons]
 rw[e,this b _ (zdD _ ha) hb,zeb ha,if_pos ⟨rfl,rfl⟩,if_pos rfl]
theorem ziM{id kind:Int}{name:ByteArray}{l l':List Rw}(h:zbS id (zaT kind name) l=zbS id (zaT kind name) l'):zbd l id kind name=zbd l' id kind name:=by
 unfold zbd zbn;rw[h]
/-! keys of different kinds differ -/
theorem zev{k j:Int}{a b:ByteArray}(hk:0<=k∧k<=4)(hj:0<=j∧j<=4)(ha:zaT k a≠⟨#[]⟩)(h:zaT k a=zaT j b):k=j:=by
 have e:=congrArg Ds.bl h;rw[zbD,zbD] at e;unfold Ek.key at e;split at e
 · split at e
   · injection e with e1 _
     exact Ek.letter_inj _ _ hk hj e1
   · cases e
 · rename_i hn;exfalso
   refine ha ?_
   unfold zaT Ek.key;rw[if_neg hn]
theorem zrG{l l':List Rw}{id kind:Int}{name:ByteArray}(h:zaT kind name≠⟨#[]⟩->zbS id (zaT kind name) l=zbS id (zaT kind name) l'):zbd l id kind name=zbd l' id kind name:=by
 by_cases hk:zaT kind name=⟨#[]⟩
 · unfold zbd zbn;rw[if_pos hk,if_pos hk]
 · exact ziM (h hk)
theorem zfL{l l':List Rw}{name:ByteArray}(h:∀ nm,zbd l 1 3 nm=zbd l' 1 3 nm):zaN l name=zaN l' name:=by
 have:∀ ns,zbv l name ns=zbv l' name ns:=by
  intro ns
  induction ns with
  | nil=>rfl
  | cons n ns ih=>rw[zbv,zbv,h,ih]
 unfold zaN;rw[this]
def NoK(kind:Int)(cs:List Ch):Prop:=∀ c∈cs,∃ k nm,(0<=k∧k<=4)∧k≠kind∧c.2.2.1=zaT k nm
theorem zgH{D:List Rw}{cs:List Ch}{id kind:Int}{name:ByteArray}(hd:DstL D)(hk:0<=kind∧kind<=4)(h:NoK kind cs):zbd (apl D cs) id kind name=zbd D id kind name :=
 zrG fun hne=>zcd hd fun c hc=>by
  rintro ⟨-,e⟩;obtain⟨k,nm,h1,h2,h3⟩:=h c hc;rw[h3] at e;exact h2 (zev hk h1 hne e.symm).symm
/-! reading what was put -/
theorem za3(x:Fu)(h:okX x=true):zaS (zaT x.1.kind x.1.name) (zcF x)=(x,0):=by
 have hd:zc6 (Ds.bl (zcF x))=some x:=by
  unfold zcF;rw[if_pos h,Ds.bl_mk];exact zgy _ h (zg7 _ h)
 unfold zaS;rw[hd];exact if_pos (zbD _ _).symm
theorem zdG(x:Fu)(h:okX x=true):¬ zaT x.1.kind x.1.name=⟨#[]⟩:=by
 intro e;have:=ze4 x h;unfold zfr at this;rw[<-zbD,e] at this;cases this
theorem zol{l:List Rw}{id:Int}{x:Fu}(hx:okX x=true)(h:zbS id (zaT x.1.kind x.1.name) l=some (zcF x)):zbd l id x.1.kind x.1.name=(x,0):=by
 unfold zbd zbn;rw[if_neg (zdG x hx),if_neg (by decide),h];exact za3 x hx
theorem ztr(x:Fu)(h:okX x=true):zc6 (Ds.bl (zcF x))=some x:=by
 unfold zcF;rw[if_pos h,Ds.bl_mk];exact zgy _ h (zg7 _ h)
theorem zcq{l:List Rw}{name:ByteArray}(h:(zaN l name).2=0):(1<=(zaN l name).1∧(zaN l name).1<=15)∧Ds.name (Ds.bl name)=true:=by
 have hL:∀ ns,(zbv l name ns).2=0->1<=(zbv l name ns).1∧(zbv l name ns).1<=15:=by
  intro ns
  induction ns with
  | nil=>intro _;exact⟨(by decide:(1:Int)<=1),(by decide:(1:Int)<=15)⟩
  | cons n ns ih =>
    intro h;rw[zbv] at h ⊢;have hg:=@zgG l 1 3 (za7 n name);generalize zbd l 1 3 (za7 n name)=g at hg h ⊢;obtain⟨x,c⟩:=g;dsimp only at hg h ⊢;by_cases h0:c=0
    · rw[if_pos h0];obtain⟨-,ho,hk⟩:=hg h0;have hkd:x.1.kind=3:=zev (zbp ho) (by decide) (zdG x ho) hk;unfold okX okC Vp.cat Vp.rng at ho;rw[hkd] at ho;simp at ho
      exact ho.1.2
    · rw[if_neg h0] at h ⊢;by_cases h6:c=6
      · rw[if_pos h6] at h ⊢;exact ih h
      · rw[if_neg h6] at h;exact absurd h h0
 unfold zaN at h ⊢;cases hn:Ds.name (Ds.bl name)
 · rw[hn,if_pos rfl] at h;exact absurd h (by decide)
 · rw[hn,if_neg (by simp)] at h;rw[if_neg (by simp)];exact⟨hL _ h,rfl⟩
/-! the law -/
def ztq(c:Ch):Option Fu:=if c.1=0 then (match zc6 (Ds.bl c.2.2.2.1) with
 | some y=>if y.1.kind=0 then some y else none
 | none=>none) else none
def chN(R:List Rw)(y:Fu):Ch:=(7,y.1.d0,⟨#[]⟩,(zmS R y.1.name).1,y.1.vol)
def zvN(R:List Rw)(cs:List Ch):List Ch:=cs.filterMap fun c=>(ztq c).map (chN R)
theorem znZ{c:Ch}{y:Fu}(h:znH c=some y)(hk:y.1.kind=0):ztq c=some y:=by
 unfold znH at h;split at h
 · rename_i h1;unfold ztq;rw[if_pos h1.1]
   cases hd:zc6 (Ds.bl c.2.2.2.1) with
   | none=>rw[hd] at h;cases h
   | some z =>
     rw[hd] at h;dsimp only at h ⊢;split at h
     · cases h;rw[if_pos hk]
     · cases h
 · cases h
theorem zge{D:List Rw}:∀ (cs done out:List Ch),(∀ c∈cs,ztq c=none)->zc7 D done cs out=(out,0)
 | [],done,out,_=>by rw[zc7]
 | c::cs,done,out,h=>by
   have h':=zge (D:=D) cs (done++[c]) out fun d hd=>h d (List.mem_cons_of_mem _ hd)
   have hc:=h c List.mem_cons_self
   cases hp:znH c with
   | none=>rw[ziW hp,h']
   | some y=>rw[ziV hp (fun hk=>by rw[znZ hp hk] at hc;cases hc),h']
def LwC(D:List Rw)(g:List Ch × Int):Prop:=g.2=0->zc7 D [] g.1 []=(zvN (apl D g.1) g.1,0)∧∀ c∈g.1,∀ y,ztq c=some y->(zmS (apl D g.1) y.1.name).2=0
theorem LwC.bad{D:List Rw}{e:Int}(h:e≠0):LwC D ([],e):=fun q=>absurd q h
theorem LwC.none{D:List Rw}{g:List Ch × Int}(h:∀ c∈g.1,ztq c=none):LwC D g:=fun _=>by
 refine⟨?_,fun c hc y hy=>by rw[h c hc] at hy;cases hy⟩
 rw[zge _ _ _ h]
 have e:zvN (apl D g.1) g.1=[]:=by
  unfold zvN;rw[List.filterMap_eq_nil_iff];intro c hc;rw[h c hc];rfl
 rw[e]
theorem LwC.ite{D:List Rw}{p:Prop}[Decidable p]{a b:List Ch × Int}(h1:p->LwC D a)(h2:¬ p->LwC D b):LwC D (if p then a else b):=by
 split
 · exact h1 ‹_›
 · exact h2 ‹_›
/-! an operation adds one row at most -/
theorem zkV{x y z:Rw}(h:zeR x y=true)(h2:zeR x z=true):zeR y z=true:=by
 unfold zeR at h h2 ⊢;rw[Bool.and_eq_true,decide_eq_true_eq,decide_eq_true_eq] at h h2 ⊢;exact⟨h.1.symm.trans h2.1,h.2.symm.trans h2.2⟩
theorem zpR:∀ (A B:List Rw),DstL A->(∀ x∈A,∃ y∈B,zeR y x=true)->A.length<=B.length
 | [],B,_,_=>Nat.zero_le _
 | x::A,B,hd,h=>by
   obtain⟨h1,h2⟩:=List.pairwise_cons.1 hd;obtain⟨y,hy,hs⟩:=h x List.mem_cons_self;obtain⟨B1,B2,rfl⟩:=List.append_of_mem hy
   have ih:=zpR A (B1++B2) h2 fun z hz=>by
    obtain⟨u,hu,hsu⟩:=h z (List.mem_cons_of_mem _ hz);rcases List.mem_append.1 hu with hu|hu
    · exact⟨u,List.mem_append_left _ hu,hsu⟩
    · rcases List.mem_cons.1 hu with rfl|hu
      · have:=h1 z hz;rw[zkV hs hsu] at this;cases this
      · exact⟨u,List.mem_append_right _ hu,hsu⟩
   rw[List.length_append] at ih;rw[List.length_append,List.length_cons,List.length_cons];omega
def Old1(R:List Rw)(cs:List Ch):Prop:=∃ p:Rw,∀ c∈cs,c.1=0->∃ y∈p::R,y.1=c.2.1∧y.2.1=c.2.2.1
theorem znS{R:List Rw}{cs:List Ch}(hd:DstL R)(h:Old1 R cs):(apl R cs).length<=R.length+1:=by
 obtain⟨p,hp⟩:=h
 have hall:∀ x∈apl R cs,∃ y∈p::R,zeR y x=true:=by
  have:∀ (l:List Ch) (o:List Rw),(∀ c∈l,c.1=0->∃ y∈p::R,y.1=c.2.1∧y.2.1=c.2.2.1)->(∀ x∈o,∃ y∈p::R,zeR y x=true)->∀ x∈l.foldl apS o,∃ y∈p::R,zeR y x=true:=by
   intro l
   induction l with
   | nil=>intro o _ ho;exact ho
   | cons c l ih =>
     intro o hl ho;rw[List.foldl_cons];refine ih _ (fun d hd=>hl d (List.mem_cons_of_mem _ hd)) fun x hx=>?_
     unfold apS at hx;split at hx
     · rename_i h0;rcases List.mem_cons.1 ((zcM _ _).subset hx) with rfl|hx
       · obtain⟨y,hy,e1,e2⟩:=hl c List.mem_cons_self h0;refine⟨y,hy,?_⟩
         unfold zeR;rw[decide_eq_true (by exact e1),decide_eq_true (by exact congrArg Ds.bl e2)];rfl
       · exact ho x (List.mem_filter.1 hx).1
     · exact ho x (List.mem_filter.1 hx).1
  refine this cs _ hp fun x hx=>⟨x,List.mem_cons_of_mem _ ((zbB R).subset hx),?_⟩
  unfold zeR;rw[decide_eq_true rfl,decide_eq_true rfl];rfl
 have:=zpR _ _ (zcE cs hd) hall;rw[List.length_cons] at this;exact this
theorem Old1.nil(R:List Rw):Old1 R []:=⟨(0,⟨#[]⟩,⟨#[]⟩),fun _ h=>by cases h⟩
theorem Old1.one(R:List Rw)(c:Ch):Old1 R [c]:=⟨(c.2.1,c.2.2.1,⟨#[]⟩),fun d hd _=>by rw[List.mem_singleton.1 hd];exact⟨_,List.mem_cons_self,rfl,rfl⟩⟩
theorem Old1.era{R:List Rw}{cs:List Ch}(h:∀ c∈cs,c.1≠0):Old1 R cs:=⟨(0,⟨#[]⟩,⟨#[]⟩),fun c hc h0=>absurd h0 (h c hc)⟩
theorem Old1.ite{R:List Rw}{p:Prop}[Decidable p]{a b:List Ch × Int}(h1:Old1 R a.1)(h2:Old1 R b.1):Old1 R (if p then a else b).1:=by split <;> assumption
theorem zsr(l:List Rw)(k i:Int)(x:Fu)(s:ByteArray):Old1 l (opR l k i x s).1:=by
 have N:=Old1.nil l;have era:∀ id y,(zbf id y).1≠0:=fun id y=>(show (1:Int)≠0 by decide)
 have hrem:∀ id kind name,Old1 l (zna l id kind name).1:=fun id kind name=>by
  unfold zna;refine Old1.ite N (Old1.ite N (Old1.ite (Old1.ite N (Old1.era ?_)) (Old1.one _ _)))
  intro c hc;rcases List.mem_append.1 hc with hc|hc
  · obtain⟨a,-,rfl⟩:=List.mem_map.1 hc;exact era _ _
  · rw[List.mem_singleton.1 hc];exact era _ _
 have hren:∀ id name tn,Old1 l (zk8 l id name tn).1:=fun id name tn=>by
  unfold zk8;refine Old1.ite N (Old1.ite N (Old1.ite N (Old1.ite N (Old1.ite N ?_))))
  have hali:=zqO l id name;dsimp only;generalize (zeW l id name).1=A at hali ⊢;generalize (zbd l id 0 name).1=e;refine⟨((zby id (zid e tn)).2.1,(zby id (zid e tn)).2.2.1,⟨#[]⟩),fun c hc h0=>?_⟩
  unfold zql at hc;rcases List.mem_cons.1 hc with rfl|hc
  · exact absurd h0 (era _ _)
  rcases List.mem_cons.1 hc with rfl|hc
  · exact⟨_,List.mem_cons_self,rfl,rfl⟩
  obtain⟨a,ha,rfl⟩:=List.mem_map.1 hc;obtain⟨-,hk,x,hx,e1,e2⟩:=hali a ha;refine⟨x,List.mem_cons_of_mem _ hx,e1,?_⟩
  rw[e2];show zaT 2 a.1.name=zaT a.1.kind a.1.name
  rw[hk]
 unfold opR;refine Old1.ite ?_ (Old1.ite ?_ (Old1.ite ?_ (Old1.ite ?_ ?_)))
 · unfold zpN zpC;exact Old1.ite (Old1.ite N (Old1.ite (Old1.ite N (Old1.ite N (Old1.ite N (Old1.one _ _)))) N)) N
 · unfold zhU;exact Old1.ite N (hrem _ _ _)
 · unfold zhV;exact Old1.ite N (Old1.ite N (Old1.ite N (Old1.ite N (hren _ _ _))))
 · unfold zpH;exact Old1.ite N (Old1.ite N (Old1.ite N (Old1.ite N (Old1.ite N (Old1.one _ _)))))
 · unfold zk5;exact Old1.ite N (Old1.ite N (Old1.ite N (Old1.one _ _)))
theorem zoR{R:List Rw}(hd:DstL R)(z:Zo):(opS R z).length<=R.length+1:=by
 unfold opS;split
 · exact znS hd (zsr R _ _ _ _)
 · omega
theorem zdi(Z:Nat->Zo):∀ n,(zcW Z n).length<=n
 | 0=>Nat.zero_le _
 | k+1=>by
   have h1:=zdi Z k;have h2:=zoR (zdM Z k).1 (Z k);rw[zcW];omega
section
open Go.RowKit
set_option linter.unusedSimpArgs false
attribute [local go_sem ↓] zoy zu0
attribute [local go_sem] zav zap zal zaI zaJ zae zaq zai zaw zao zas zan zbi zaj zaf zaA zax zak zag zar zaG
theorem run36b(a:Option Addr)(n c:Nat)(Z:Nat->Zo)(w:World)(hn:n<=100)(hm:MaxL w)(hT:Tab w)(hF:OL w a n Z) :
  Calls Tryz.prog 9 #[.slice a n c] w fun r w'=>∃ v',r=.returned v'∧RwS w' v' (zcW Z n)∧(∀ q,v'.ownBlock=some q->q<w'.heap.size)∧Below w.heap.size w w':=by
 have HF:=lh hF;have HM:=lh (fun W (b:Below w.heap.size w W)=>And.intro (hm.below b) (hT.below b));clear hF hm hT;go_enter Tryz.func9,Tryz.ntmps9
 go_wp2_with fail
 go_loopw [3,10] (fun v i wr=>∃ (k:Nat),k<=n∧i=.int .i64 k∧Hid (RwS wr v (zcW Z k))∧Hid (∀ q,v.ownBlock=some q->q<wr.heap.size)∧Hid (Below w.heap.size w wr)) (fun _ i _=>n - (intOf i).toNat)
 case atStart=>exact⟨0,Nat.zero_le _,rfl,lh ⟨none,0,rfl,by simp [zcW],fun h=>by simp [zcW] at h⟩,lh (fun q hq=>by cases hq),lh (Below.refl _ _)⟩
 case round =>
  obtain⟨k,hk,rfl,HR,HQ,HB⟩:=hrel;obtain⟨va,vc,rfl,-⟩:=_root_.id HR.out;have hml:=zdi Z k;obtain⟨hd,hkz⟩:=zdM Z k;have hstep:zcW Z (k+1)=opS (zcW Z k) (Z k):=rfl;unfold opS at hstep;by_cases hlt:k<n
  · obtain⟨b,o,al,gr,rfl,hb,hmid,hI,hG,hsz,hss⟩:=(HF.out.below HB.out) k hlt;generalize zcW Z k=D at hml hd hkz hstep HR HQ ⊢;generalize Z k=z at hmid hI hG hsz hss hstep;obtain⟨zk,zi,x,s⟩:=z;dsimp only at hmid hI hG hsz hss hstep;have hone:=zfz (k:=zk) (i:=zi) (s:=s) (zau x.1 al gr (zaP hI) (zaO hG));have hz36:(zfX wr b (o+k*36)).size=36:=by rw[hmid];exact zbi _ _ _ _ _ _
    have j1:(0:Int)<=(k:Int):=by omega
    have j2:(k:Int)<(n:Int):=by omega
    have hdo:=fun W (b:Below wr.heap.size wr W)=>zpO (.slice va D.length vc) D zk zi x s al gr W (HM.out W (bt HB.out b)).1 (HM.out W (bt HB.out b)).2 (HR.out.below b) (fun q hq=>Nat.lt_of_lt_of_le (HQ.out q hq) b.size) hd (by omega) hkz hsz hss (hI.below b) (hG.below b)
    have hcl:=ziZ D zk zi x s;unfold Lz at hcl;generalize opR D zk zi x s=g at hdo hstep hcl;obtain⟨cs,code⟩:=g;dsimp only at hdo hstep hcl
    have HDO:=lh hdo;have HST:=lh hstep;generalize hcv:opv zk zi x.1 al gr s=cv at hmid hone HDO;have hcs:cv.size=36:=by rw[<-hcv];exact zbi _ _ _ _ _ _
    clear hdo hstep hI hG hsz hss hd hkz hcv;have R0:=zai wr cv 59 (0,0);go_upto_region 5 with fail
    generalize hW1:wr.alloc (.cells cv 59)=W1 at R0 ⊢;have B1:=lh (show Below wr.heap.size wr W1 by rw[<-hW1];exact zab _ _);clear hW1;refine wp_region_held_drew (S:=fun w'=>row w' wr.heap.size=cv) (by kernel_rfl) R0 (fun hHeld=>?_)
    (refine rgy (i:=0) (some 15) ?_;(try simp only[Act.put,pz]))
    (refine zqn (i:=3) (some 18) (v:=.agg (cv)) rfl rfl (by kernel_rfl) (by kernel_rfl) (by kernel_rfl) (fun _ _ _ h=>h) (by kernel_rfl) (fun wS hSw=>?_) (by assumption) ?_;focus (exact (zvl _ wS _ _ _ _ _ _ rfl (by show (row wS (wr.heap.size)).size=36;rw[hSw];exact hcs)).trans (by show Result.ok (Next.value (.agg (row wS (wr.heap.size)))) wS=_;rw[hSw]));(try simp only[Act.put,pz]))
    refine rgb (i:=1) (by kernel_rfl) rfl (fun K hK=>?_)
    go_simp
    go_at_call 11
    refine (sh36 _ _ _ _).mono ?_
    rintro _ _ ⟨rfl,rfl⟩;refine hK.out _ _ (zaB (zab W1.drew _) R0 (by rw[hcs];decide)) (fun hHeld=>?_)
    (clear hK K;(try simp only[Act.put,pz]))
    (refine rgy (i:=2) (some 17) ?_;(try simp only[Act.put,pz]))
    refine rgb (i:=4) (by kernel_rfl) rfl (fun K hK=>?_)
    go_simp
    go_at_call 22
    refine (HDO.out W1.drew B1.out.drew).mono ?_
    rintro _ w5 ⟨ov,rfl,hc,hr5,hb5⟩;have b5:Below W1.heap.size W1 w5:=(Below.refl W1.heap.size W1).drew.trans hb5;have R5:=zaB b5 R0 (by rw[hcs];decide);refine hK.out _ _ R5 (fun hHeld=>?_)
    (clear hK K;(try simp only[Act.put,pz]))
    (refine rgy (i:=5) (some 14) ?_;(try simp only[Act.put,pz]))
    (refine rgy (i:=6) (some 20) ?_;(try simp only[Act.put,pz]))
    (refine rgy (i:=7) (some 21) ?_;(try simp only[Act.put,pz]))
    (refine rgy (i:=8) (some 6) ?_;(try simp only[Act.put,pz]))
    (refine rgy (i:=9) (some 7) ?_;(try simp only[Act.put,pz]))
    refine wpAnyH_done (by kernel_rfl) ?_ _
    have HC:=lh hc;have HR5:=lh hr5;have HB5:=lh (bt HB.out (bt B1.out b5));have HQ5:=lh (fun q hq=>Nat.lt_of_lt_of_le (HQ.out q hq) (Nat.le_trans B1.out.size b5.size));clear hc hr5 hb5 b5 R5 hHeld R0;by_cases h0:code=0
    rotate_left
    · have t1:(code==0)=false:=beq_eq_false_iff_ne.2 h0;have HS2:Hid (zcW Z (k+1)=D):=lh (by rw[HST.out,if_neg h0]);clear h0;go_wp2_with fail
      go_roundw
      case rel=>exact⟨k+1,by omega,by go_num,lh (by rw[HS2.out];exact HR5.out),HQ5,HB5⟩
      case measure=>simp [intOf];omega
    have t1:(code==0)=true:=beq_iff_eq.2 h0;have HS2:Hid (zcW Z (k+1)=apl D cs):=lh (by rw[HST.out,if_pos h0]);obtain⟨ca,cc,rfl,-⟩:=_root_.id HC.out;have HAP:=lh (zhZ (.slice va D.length vc) D (.slice ca cs.length cc) cs w5 HR5.out HC.out (by omega) (by omega));clear h0;go_wp2_with (go_at_call 24;(refine HAP.out.mono ?_);rintro _ w6 ⟨v6,rfl,hr6,ho6,hb6⟩;have HR6:=lh hr6;have HQ6:=lh (fun q hq=>(ho6 q hq).2);have HB6:=lh (bt HB5.out hb6);clear hr6 ho6 hb6)
    go_roundw
    case rel=>exact⟨k+1,by omega,by go_num,lh (by rw[HS2.out];exact HR6.out),HQ6,HB6⟩
    case measure=>simp [intOf];omega
  · obtain rfl:k=n:=by omega
    go_wp2_with fail
    go_ret
    exact⟨_,rfl,HR.out,HQ.out,HB.out⟩
end
end Go.Proofs.YtefcmdmfgdcpmaaGreatDoor
