/- Catalogs. -/
import Derived.Test.YtefcmdmfgdcpmaaGreatDoorSaL
set_option maxRecDepth 8000
set_option maxHeartbeats 8000000
namespace Go.Proofs.YtefcmdmfgdcpmaaGreatDoor
open Go.RowKit
section
attribute [local go_sem ↓] zaV zaW
attribute [local go_sem] zap zal zae zaq zai zaw zao zas zan zaC zaE zaa zaj zaf zaA zax zak zag zar zaG
theorem zud(k:Int)(n:List UInt8):(Ek.key k n).length<=32:=by
 unfold Ek.key;split
 · rename_i h;rw[List.length_cons,Ek.pad_len n h.2];exact Nat.le_refl _
 · simp
theorem zuh(w:World)(m:Nat)(k:Int)(v:Value)(i:Nat)(hb:w.heap[m]?=some (.map fe5 5))(h:Instr.findNow (.int .i64) (.int .i64 k) fe5.toList 0=some (some (i,v))) :
  (Instr.lookup 76 (.map (some m)) (.int .i64 k) false).run Tryz.prog w=.ok v w:=by
 have hck:=fun b=>MapKept.run_checkKey (P:=Tryz.prog) (w:=w) (k:=.int .i64 k) Tryz.underlying3 rfl b 9999
 have hfk:=MapKept.run_findKey (P:=Tryz.prog) (w:=w) (kt:=3) (k:=.int .i64 k) Tryz.underlying3 h;simp [Instr.lookup,run_underlying Tryz.underlying76,MapKept.run_getObj_map hb,hck,hfk,Result.andThen]
def MP(m:Nat)(W:World):Prop:=W.heap[m]?=some (.map fe5 5)∧m<W.heap.size
theorem MP.below{m:Nat}{W W':World}(h:MP m W)(hb:Below W.heap.size W W'):MP m W':=⟨(hb.block m h.2).trans h.1,Nat.lt_of_lt_of_le h.2 hb.size⟩
theorem zlS(W:World):Calls Tryz.prog 29 #[] W fun r w'=>∃ m,r=.returned (.map (some m))∧MP m w'∧Below W.heap.size W w' :=
 (zco W).mono fun _ _ ⟨he,hw⟩=>⟨_,he,by subst hw;exact⟨heap_alloc_new W _,by simp⟩,by subst hw;exact (Below.refl _ _).alloc (Nat.le_refl _) _⟩
def PE(w:World)(cs:Array Value)(W:World):Prop:=row W w.heap.size=cs∧Below w.heap.size w W
theorem PE.below{w W W':World}{cs:Array Value}(h:PE w cs W)(hb:Below W.heap.size W W')(h0:0<cs.size):PE w cs W':=⟨zaB hb h.1 h0,bt h.2 hb⟩
theorem PE.new(w:World)(cs:Array Value)(t:TypeId):PE w cs (w.alloc (.cells cs t)):=⟨zai w cs t _,(Below.refl _ _).alloc (Nat.le_refl _) _⟩
theorem PE.bel{w W:World}(cs:Array Value)(h:PE w cs W):Below w.heap.size w W:=h.2
theorem PE.drew{w W:World}{cs:Array Value}(h:PE w cs W):PE w cs W.drew:=⟨by rw[zas];exact h.1,h.2.drew⟩
theorem zhz(e:En)(al gr:Value)(w:World)(hv:∀ W,Below w.heap.size w W->Calls Tryz.prog 98 #[.agg (e.vals al gr)] W fun r w'=>r=.returned (.bool false)∧Below W.heap.size W w') :
  Calls Tryz.prog 32 #[.agg (e.vals al gr)] w fun r w'=>r=.returned (.tuple #[.string ⟨#[]⟩,.int .i64 1])∧Below w.heap.size w w':=by
 have HV:=lh hv;clear hv;go_enter Tryz.func32,Tryz.ntmps32
 go_wp2_with (go_at_call 98;(with_reducible refine (HV.out _ (by exact zbo)).mono ?_);rintro _ w2 ⟨rfl,hb⟩;have B2:=Below.trans (show Below w.heap.size w _ by exact zbo) (hb.mono (by simp));clear hb)
 go_ret2
 exact⟨rfl,B2⟩
theorem zgB(e:En)(al gr:Value)(li A K B i:Nat)(body:List UInt8)(w:World)(hE:zdv K)(hk:Instr.findNow (.int .i64) (.int .i64 e.kind) fe5.toList 0=some (some (i,.agg (zb5 li A K B))))(hl:body.length<=1000)(hv:∀ W,Below w.heap.size w W->Calls Tryz.prog 98 #[.agg (e.vals al gr)] W fun r w'=>r=.returned (.bool true)∧Below W.heap.size W w')(hw:∀ W,Below w.heap.size w W->Writes W K (e.vals al gr) body) :
  Calls Tryz.prog 32 #[.agg (e.vals al gr)] w fun r w'=>∃ t,r=.returned (.tuple #[.string t,.int .i64 0])∧Ds.bl t=Ek.key e.kind (Ds.bl e.name)++body∧Below w.heap.size w w':=by
 have hbo:=fun W b=>zlg li A K B (e.vals al gr) body W hE (hw W b)
 have hky:=fun W=>zpU e.kind e.name W
 have hlk:=fun W m h=>zuh W m e.kind _ i h hk
 unfold zb5 at hbo hlk;have hkl:=zud e.kind (Ds.bl e.name);generalize Ek.key e.kind (Ds.bl e.name)=ky at hky hkl ⊢;have HB:=lh hbo;have HK:=lh hky;have HV:=lh hv;have HL:=lh hlk;clear hbo hky hlk hv hw hk hE;go_enter Tryz.func32,Tryz.ntmps32
 go_wp2_with (go_at_call 98;(with_reducible refine (HV.out _ (by exact zbo)).mono ?_);rintro _ w2 ⟨rfl,hb⟩;have E2:=(PE.new w (e.vals al gr) 40).below hb (by simp [zaa]);have R2:=E2.1;have n0:=zah R2 0 _ (zaC e al gr);have n1:=zah R2 1 _ (zaE e al gr);clear hb)
 have E2':=E2.drew
 go_region_law (first
  | (go_simp;go_at_call 70;(with_reducible refine (HK.out _).mono ?_);rintro _ w3 ⟨tk,rfl,hk,hb⟩;have E3:=PE.below (by assumption) hb (by simp [zaa]);have R3:=E3.1;have m0:=zah R3 0 _ (zaC e al gr);have m1:=zah R3 1 _ (zaE e al gr);(first|(have M3:=MP.below (by assumption) hb;have hl3:=HL.out _ _ M3.1)|skip);have zk:tk.size<=32:=(by rw[<-Ds.bl_length,hk];exact hkl);(first|(have l2:¬ 9223372036854775807<tk.size+tb.size:=(by omega))|skip);have HTK:=lh hk;clear hb hk)
  | (go_simp;go_at_call 29;(with_reducible refine (zlS _).mono ?_);rintro _ w4 ⟨m,rfl,M4,hb⟩;have hl4:=HL.out _ _ M4.1;have E4:=PE.below (by assumption) hb (by simp [zaa]);have R4:=E4.1;have q0:=zah R4 0 _ (zaC e al gr);have q1:=zah R4 1 _ (zaE e al gr);clear hb)
  | (go_simp;go_at_call 99;(with_reducible refine (HB.out _ (PE.bel (e.vals al gr) (by assumption))).mono ?_);rintro _ w5 ⟨tb,rfl,ht,hb⟩;have E5:=PE.below (by assumption) hb (by simp [zaa]);have R5:=E5.1;have p0:=zah R5 0 _ (zaC e al gr);have p1:=zah R5 1 _ (zaE e al gr);have zb:tb.size<=1000:=(by rw[<-Ds.bl_length,ht];exact hl);(first|(have l2:¬ 9223372036854775807<tk.size+tb.size:=(by omega))|skip);have HTB:=lh ht;clear hb ht))
 all_goals
  go_wp2
  go_ret2
  exact⟨_,rfl,by rw[<-HTK.out,<-HTB.out];simp [Ds.bl],PE.bel (e.vals al gr) (by assumption)⟩
end
theorem zrB(e:En)(l2:List Int)(g2:List Gr)(hx:okX (e,l2,g2)=true) :
  ∃ (li A K B i:Nat),Instr.findNow (.int .i64) (.int .i64 e.kind) fe5.toList 0=some (some (i,.agg (zb5 (li:Nat) A K B)))∧zdv K∧∀ (al gr:Value) (w:World),IS w al l2->GS w gr g2->Writes w K (e.vals al gr) (zeT (e,l2,g2)):=by
 unfold okX at hx;unfold zeT;simp only at hx ⊢
 by_cases k0:e.kind=0
 · rw[if_pos k0] at hx ⊢;unfold okD at hx;simp only[Bool.and_eq_true] at hx
   exact⟨68,34,73,74,0,by rw[k0];rfl,zgC,fun al gr w h1 _=>znD e al gr l2 w h1 (zhr e l2 hx.1.2).1⟩
 rw[if_neg k0] at hx ⊢;by_cases k1:e.kind=1
 · rw[if_pos k1] at hx ⊢;unfold okG at hx;simp only[Bool.and_eq_true] at hx
   exact⟨71,75,76,80,1,by rw[k1];rfl,zlK,fun al gr w _ _=>zko e al gr w hx.1.2⟩
 rw[if_neg k1] at hx ⊢;by_cases k2:e.kind=2
 · rw[if_pos k2] at hx ⊢;unfold okA at hx;simp only[Bool.and_eq_true] at hx
   exact⟨65,83,85,86,2,by rw[k2];rfl,zlM,fun al gr w _ _=>zkn e al gr w hx.1.2⟩
 rw[if_neg k2] at hx ⊢;by_cases k3:e.kind=3
 · rw[if_pos k3] at hx ⊢;unfold okC at hx;simp only[Bool.and_eq_true] at hx
   exact⟨67,87,89,91,3,by rw[k3];rfl,zlO,fun al gr w _ _=>zqI e al gr w hx.1.2⟩
 rw[if_neg k3] at hx ⊢;by_cases k4:e.kind=4
 · rw[if_pos k4] at hx;unfold okP at hx;simp only[Bool.and_eq_true] at hx
   exact⟨80,17,92,93,4,by rw[k4];rfl,zgD,fun al gr w _ h2=>znE e al gr g2 w h2 (zfA e g2 hx.1.2).1⟩
 · rw[if_neg k4] at hx;cases hx
theorem zhy(e:En)(al gr:Value)(l2:List Int)(g2:List Gr)(w:World)(hm:MaxL w)(hT:Tab w)(hsz:e.name.size<=1000)(h1:IS w al l2)(h2:GS w gr g2) :
  Calls Tryz.prog 32 #[.agg (e.vals al gr)] w fun r w'=>∃ t,r=.returned (.tuple #[.string t,.int .i64 (if okX (e,l2,g2)=true then 0 else 1)])∧Ds.bl t=(if okX (e,l2,g2)=true then ze9 (e,l2,g2) else [])∧Below w.heap.size w w':=by
 have hv:=fun W (b:Below w.heap.size w W)=>znA e al gr l2 g2 W (hm.below b) (hT.below b) hsz (h1.below b) (h2.below b)
 cases hx:okX (e,l2,g2)
 · rw[hx] at hv;refine (zhz e al gr w hv).mono ?_
   rintro r w' ⟨rfl,hb⟩;exact⟨_,rfl,rfl,hb⟩
 · rw[hx] at hv;obtain⟨li,A,K,B,i,hf,hE,hw⟩:=zrB e l2 g2 hx;refine (zgB e al gr li A K B i (zeT (e,l2,g2)) w hE hf (by have:=zhn _ hx;omega) hv (fun W b=>hw al gr W (h1.below b) (h2.below b))).mono ?_
   rintro r w' ⟨t,rfl,ht,hb⟩;exact⟨t,rfl,ht,hb⟩
section
open Go.ChangeMaps (setBlock)
def ReadsX(k:Int)(K:Nat):Prop:=∀ (W:World) (c rb g:Nat) (s:List UInt8) (nm:ByteArray),s.length<=1000->RS W c rb g (s,0) (zcells k nm) ->
 Calls Tryz.prog K #[.pointer (some ⟨c,0,none⟩),.pointer (some ⟨g,0,none⟩)] W fun r w'=>r=.returned (.tuple #[])∧∃ al gr,RS w' c rb g (rdX k nm (s,0)).2 ((rdX k nm (s,0)).1.1.vals al gr)∧(IS w' al (rdX k nm (s,0)).1.2.1∧∀ x,al.ownBlock=some x->W.heap.size<=x)∧(GS w' gr (rdX k nm (s,0)).1.2.2∧∀ x,gr.ownBlock=some x->W.heap.size<=x)∧G2 W w' rb g
theorem zvT(n:ByteArray)(s:List UInt8 × Nat):rdX 0 n s=(((zb3 (En.base 0 n) s).1,(zb3 (En.base 0 n) s).2.1,[]),(zb3 (En.base 0 n) s).2.2):=by
 unfold rdX;rw[if_pos rfl]
theorem zvU(n:ByteArray)(s:List UInt8 × Nat):rdX 1 n s=(((zcx (En.base 1 n) s).1,[],[]),(zcx (En.base 1 n) s).2):=by
 unfold rdX;rw[if_neg (by decide)];rw[if_pos rfl]
theorem zvV(n:ByteArray)(s:List UInt8 × Nat):rdX 2 n s=(((zc1 (En.base 2 n) s).1,[],[]),(zc1 (En.base 2 n) s).2):=by
 unfold rdX;rw[if_neg (by decide)];rw[if_neg (by decide)];rw[if_pos rfl]
theorem zvW(n:ByteArray)(s:List UInt8 × Nat):rdX 3 n s=(((zgY (En.base 3 n) s).1,[],[]),(zgY (En.base 3 n) s).2):=by
 unfold rdX;rw[if_neg (by decide)];rw[if_neg (by decide)];rw[if_neg (by decide)];rw[if_pos rfl]
theorem zvX(n:ByteArray)(s:List UInt8 × Nat):rdX 4 n s=(((zc8 (En.base 4 n) s).1,[],(zc8 (En.base 4 n) s).2.1),(zc8 (En.base 4 n) s).2.2):=by
 unfold rdX;rw[if_neg (by decide)];rw[if_neg (by decide)];rw[if_neg (by decide)];rw[if_neg (by decide)];skip
theorem zcz(k:Int)(n:ByteArray):zcells k n=(En.base k n).vals (.slice none 0 0) (.slice none 0 0):=rfl
theorem reads0:ReadsX 0 73:=fun W c rb g s nm hs hR=>by
 rw[zcz] at hR;rw[zvT];simp only
 generalize En.base 0 nm=B at hR ⊢;exact (zlV c rb g (s,0) B _ W hR hs).mono fun _ w' ⟨he,al',hR',hI,hG⟩=>⟨he,al',_,hR',hI,⟨GS.nil w',fun _ h=>by cases h⟩,hG⟩
theorem reads1:ReadsX 1 76:=fun W c rb g s nm hs hR=>by
 rw[zcz] at hR;rw[zvU];simp only
 generalize En.base 1 nm=B at hR ⊢;exact (zjJ c rb g (s,0) B _ _ W hR hs).mono fun _ w' ⟨he,hR',hG⟩=>⟨he,_,_,hR',⟨IS.nil w',fun _ h=>by cases h⟩,⟨GS.nil w',fun _ h=>by cases h⟩,hG⟩
theorem reads2:ReadsX 2 85:=fun W c rb g s nm hs hR=>by
 rw[zcz] at hR;rw[zvV];simp only
 generalize En.base 2 nm=B at hR ⊢;exact (zjI c rb g (s,0) B _ _ W hR hs).mono fun _ w' ⟨he,hR',hG⟩=>⟨he,_,_,hR',⟨IS.nil w',fun _ h=>by cases h⟩,⟨GS.nil w',fun _ h=>by cases h⟩,hG⟩
theorem reads3:ReadsX 3 89:=fun W c rb g s nm hs hR=>by
 rw[zcz] at hR;rw[zvW];simp only
 generalize En.base 3 nm=B at hR ⊢;exact (zpY c rb g (s,0) B _ _ W hR hs).mono fun _ w' ⟨he,hR',hG⟩=>⟨he,_,_,hR',⟨IS.nil w',fun _ h=>by cases h⟩,⟨GS.nil w',fun _ h=>by cases h⟩,hG⟩
theorem reads4:ReadsX 4 92:=fun W c rb g s nm hs hR=>by
 rw[zcz] at hR;rw[zvX];simp only
 generalize En.base 4 nm=B at hR ⊢;exact (zlW c rb g (s,0) B _ W hR hs).mono fun _ w' ⟨he,gr',hR',hI,hG⟩=>⟨he,_,gr',hR',⟨IS.nil w',fun _ h=>by cases h⟩,hI,hG⟩
def zvm(x:MapEntry):Prop:=∃ (k:Int) (A K B:Nat),(0<=k∧k<=4)∧x=⟨.int .i64 k,.agg (zb5 ((Ek.letter k).toNat:Nat) A K B),k.toNat⟩∧zdv K∧ReadsX k K
theorem zrC:∀ x∈fe5.toList,zvm x:=by
 intro x hx;have hx:x=⟨.int .i64 0,form0,0⟩∨x=⟨.int .i64 1,form1,1⟩∨x=⟨.int .i64 2,form2,2⟩∨x=⟨.int .i64 3,form3,3⟩∨x=⟨.int .i64 4,form4,4⟩:=by simpa [fe5] using hx
 rcases hx with rfl|rfl|rfl|rfl|rfl
 · exact⟨0,34,73,74,by decide,rfl,zgC,reads0⟩
 · exact⟨1,75,76,80,by decide,rfl,zlK,reads1⟩
 · exact⟨2,83,85,86,by decide,rfl,zlM,reads2⟩
 · exact⟨3,87,89,91,by decide,rfl,zlO,reads3⟩
 · exact⟨4,17,92,93,by decide,rfl,zgD,reads4⟩
theorem zrA(k:Int)(h:0<=k∧k<=4):∃ x∈fe5.toList,x.born=k.toNat:=by
 rcases (by omega:k=0∨k=1∨k=2∨k=3∨k=4) with rfl|rfl|rfl|rfl|rfl
 · exact⟨_,by unfold fe5;exact List.mem_cons_self,rfl⟩
 · exact⟨⟨.int .i64 1,form1,1⟩,by simp [fe5],rfl⟩
 · exact⟨⟨.int .i64 2,form2,2⟩,by simp [fe5],rfl⟩
 · exact⟨⟨.int .i64 3,form3,3⟩,by simp [fe5],rfl⟩
 · exact⟨⟨.int .i64 4,form4,4⟩,by simp [fe5],rfl⟩
def Iter(w:World)(m r:Nat)(seen:Array Nat)(c:Nat):Prop:=w.heap[m]?=some (.map fe5 5)∧w.heap[r]?=some (.mapIter (some m) 5 seen c)∧5<=c∧m<w.heap.size∧r<w.heap.size∧m≠r
theorem Iter.keep{w w':World}{m r:Nat}{seen:Array Nat}{c:Nat}(h:Iter w m r seen c)(hm:w'.heap[m]?=w.heap[m]?)(hr:w'.heap[r]?=w.heap[r]?)(hs:w.heap.size<=w'.heap.size):Iter w' m r seen c :=
 ⟨hm.trans h.1,hr.trans h.2.1,h.2.2.1,by have:=h.2.2.2.1;omega,by have:=h.2.2.2.2.1;omega,h.2.2.2.2.2⟩
theorem Iter.below{w w':World}{m r:Nat}{seen:Array Nat}{c:Nat}(h:Iter w m r seen c)(hb:Below w.heap.size w w'):Iter w' m r seen c:=h.keep (hb.block _ h.2.2.2.1) (hb.block _ h.2.2.2.2.1) hb.size
theorem Iter.seen{w:World}{m r:Nat}{seen:Array Nat}{c:Nat}(h:Iter w m r seen c):w.iterSeen r=seen:=by unfold World.iterSeen;rw[h.2.1]
section
variable {ops:Array Oper} {rest:List Oper} {o:Oper} {a:Act} {Q:Exit->Act->World->Prop}
theorem zfP(w:World)(hg:o.guard=none)(mo:Operand)(hop:o.op=Op.range 76 mo)(m:Nat)(hm:a.eval mo=.map (some m))(hb:MP m w)(hK:∀ w',Iter w' m w.heap.size #[] 5->Below w.heap.size w w'->w'.heap.size=w.heap.size+1->wpList Tryz.prog ops Q rest (a.put o.dst (.pointer (some ⟨w.heap.size,0,none⟩))) w') :
  wpList Tryz.prog ops Q (o::rest) a w:=by
 refine wpList_plain hg fun K' hK'=>?_
 have hrun:=run_range_map (P:=Tryz.prog) w 76 3 81 m fe5 5 Tryz.underlying76 hb.1;unfold Oper.wp;simp [execOp,hop,hm,hrun,Result.andThen]
 refine hK' _ _ (hK _ ⟨(heap_alloc_old w _ hb.2).trans hb.1,heap_alloc_new w _,Nat.le_refl _,?_,?_,?_⟩ ((Below.refl _ _).alloc (Nat.le_refl _) _) ?_)
 · have:=hb.2;simp;omega
 · simp
 · have:=hb.2;omega
 · simp
theorem zf0(w:World)(hg:o.guard=none)(it:Operand)(hop:o.op=Op.next it false)(m r c:Nat)(seen:Array Nat)(hit:a.eval it=.pointer (some ⟨r,0,none⟩))(h:Iter w m r seen c)(hDone:(∀ x∈fe5.toList,seen.contains x.born=true)->wpList Tryz.prog ops Q rest (a.put o.dst (.tuple #[.bool false])) w)(hMore:∀ (k:Int) (A K B:Nat) (w':World),(0<=k∧k<=4)->zdv K->ReadsX k K->w.grownBy w' (some r)->w'.heap.size=w.heap.size->Iter w' m r (seen.push k.toNat) 5->(leftOf fe5 (seen.push k.toNat)).size<(leftOf fe5 seen).size ->
    (Instr.entry (.pointer (some ⟨r,0,none⟩))).run Tryz.prog w'=.ok (.tuple #[.int .i64 k,.agg (zb5 ((Ek.letter k).toNat:Nat) A K B)]) w' ->
    wpList Tryz.prog ops Q rest (a.put o.dst (.tuple #[.bool true,.int .i64 k,.agg (zb5 ((Ek.letter k).toNat:Nat) A K B)])) w') :
  wpList Tryz.prog ops Q (o::rest) a w:=by
 refine wpList_plain hg fun K' hK'=>?_
 unfold Oper.wp;obtain⟨hm,hr,hc,hml,hrl,hne⟩:=h;have hold:∀ x∈fe5.toList,x.born<5:=by decide
 rcases run_next_at (P:=Tryz.prog) w o.type r m 5 c seen fe5 5 hr hm hold hc with ⟨h0,hrun⟩|⟨e,he,w1,hw1,hrun⟩
 · simp [execOp,hop,hit,hrun,Result.andThen]
   exact hK' _ _ (hDone (all_seen fe5 seen h0))
 · have hel:=(mem_left he).1;have hlt:=left_shrinks fe5 seen e he;obtain⟨k,A,K,B,hk,rfl,hE,hR⟩:=zrC e hel;have hr1:w1.heap[r]?=some (.mapIter (some m) 5 seen c):=by rcases hw1 with rfl|rfl <;> exact hr
   have hm1:w1.heap[m]?=some (.map fe5 5):=by rcases hw1 with rfl|rfl <;> exact hm
   have hs1:w1.heap.size=w.heap.size:=by rcases hw1 with rfl|rfl <;> rfl
   have hg1:w.grownBy w1 (some r):=by rcases hw1 with rfl|rfl <;> exact⟨rfl,rfl,rfl,Nat.le_refl _,fun _ _ _=>rfl⟩
   have hg2:w.grownBy (setBlock w1 r (.mapIter (some m) 5 (seen.push k.toNat) 5)) (some r):=hg1.trans ⟨rfl,rfl,rfl,by simp [setBlock],fun i _ hi=>zbx w1 r i _ (fun e=>hi (by rw[e]))⟩
   have hit2:Iter (setBlock w1 r (.mapIter (some m) 5 (seen.push k.toNat) 5)) m r (seen.push k.toNat) 5 :=
    ⟨(zbx w1 r m _ hne).trans hm1,zcp w1 r _ (by omega),Nat.le_refl _,by simp [setBlock];omega,by simp [setBlock];omega,hne⟩
   have hen:=run_entry_at (P:=Tryz.prog) (setBlock w1 r (.mapIter (some m) 5 (seen.push k.toNat) 5)) r m 5 seen fe5 5 _ hit2.2.1 hit2.1 hel (by decide);simp [execOp,hop,hit,hrun,Result.andThen]
   exact hK' _ _ (hMore k A K B _ hk hE hR hg2 (by simp [setBlock,hs1]) hit2 hlt hen)
def zqK(w w':World)(m r:Nat)(seen:Array Nat)(k:Int):Prop:=(0<=k∧k<=4)∧w.grownBy w' (some r)∧w'.heap.size=w.heap.size∧Iter w' m r (seen.push k.toNat) 5∧(leftOf fe5 (seen.push k.toNat)).size<(leftOf fe5 seen).size
theorem zfO(w:World)(hg:o.guard=none)(it:Operand)(hop:o.op=Op.next it false)(m r c:Nat)(seen:Array Nat)(hit:a.eval it=.pointer (some ⟨r,0,none⟩))(h:Iter w m r seen c)(c0:UInt8)(hDone:Hid (∀ x∈fe5.toList,seen.contains x.born=true)->wpList Tryz.prog ops Q rest (a.put o.dst (.tuple #[.bool false])) w)(hSkip:∀ (k li:Int) (A K B:Nat) (w':World),(li==(c0.toNat:Int))=false->Hid (zqK w w' m r seen k∧Ek.letter k≠c0) ->
    (Instr.entry (.pointer (some ⟨r,0,none⟩))).run Tryz.prog w'=.ok (.tuple #[.int .i64 k,.agg #[.int .u8 li,.func (.func A) #[] #[],.func (.func K) #[] #[],.func (.func B) #[] #[]]]) w' ->
    wpList Tryz.prog ops Q rest (a.put o.dst (.tuple #[.bool true,.int .i64 k,.agg #[.int .u8 li,.func (.func A) #[] #[],.func (.func K) #[] #[],.func (.func B) #[] #[]]])) w')(hHit:∀ (k:Int) (A K B:Nat) (w':World),(∀ (args:Array Value) (W:World),(callFunc K args).run Tryz.prog W=.ok (.enter K args) W)->Hid (zqK w w' m r seen k∧Ek.letter k=c0∧ReadsX k K) ->
    (Instr.entry (.pointer (some ⟨r,0,none⟩))).run Tryz.prog w'=.ok (.tuple #[.int .i64 k,.agg #[.int .u8 (c0.toNat:Nat),.func (.func A) #[] #[],.func (.func K) #[] #[],.func (.func B) #[] #[]]]) w' ->
    wpList Tryz.prog ops Q rest (a.put o.dst (.tuple #[.bool true,.int .i64 k,.agg #[.int .u8 (c0.toNat:Nat),.func (.func A) #[] #[],.func (.func K) #[] #[],.func (.func B) #[] #[]]])) w') :
  wpList Tryz.prog ops Q (o::rest) a w:=by
 refine zf0 w hg it hop m r c seen hit h (fun hd=>hDone (lh hd)) (fun k A K B w' hk hE hR h1 h2 h3 h4 h5=>?_)
 by_cases hl:Ek.letter k=c0
 · rw[hl] at h5 ⊢;exact hHit k A K B w' hE (lh ⟨⟨hk,h1,h2,h3,h4⟩,hl,hR⟩) h5
 · refine hSkip k _ A K B w' ?_ (lh ⟨⟨hk,h1,h2,h3,h4⟩,hl⟩) h5
   rw[beq_eq_false_iff_ne];intro e;exact hl (UInt8.toNat_inj.1 (by omega))
end
end
section
def DW(w wr:World)(m r:Nat)(seen:Array Nat)(c:Nat):Prop:=Below w.heap.size w wr∧EB wr w.heap.size (zcells 0 ⟨#[]⟩)∧Iter wr m r seen c∧w.heap.size<m∧m<r
theorem DW.bel{w wr:World}{m r c:Nat}{seen:Array Nat}(h:DW w wr m r seen c):Below w.heap.size w wr:=h.1
theorem DW.lt{w wr:World}{m r c:Nat}{seen:Array Nat}(h:DW w wr m r seen c):w.heap.size<wr.heap.size∧r<wr.heap.size∧m<wr.heap.size:=⟨h.2.1.2.2,h.2.2.1.2.2.2.2.1,h.2.2.1.2.2.2.1⟩
theorem DW.keep{w wr w2:World}{m r c:Nat}{seen:Array Nat}(h:DW w wr m r seen c)(hb:Below w.heap.size wr w2)(h0:w2.heap[w.heap.size]?=wr.heap[w.heap.size]?)(h1:w2.heap[m]?=wr.heap[m]?)(h2:w2.heap[r]?=wr.heap[r]?):DW w w2 m r seen c :=
 ⟨h.1.trans hb,h.2.1.of_block h0 hb.size,h.2.2.1.keep h1 h2 hb.size,h.2.2.2⟩
theorem DW.below{w wr w2:World}{m r c:Nat}{seen:Array Nat}(h:DW w wr m r seen c)(hb:Below wr.heap.size wr w2):DW w w2 m r seen c:=by
 obtain⟨z1,z2,z3⟩:=h.lt;exact h.keep (hb.mono (by omega)) (hb.block _ z1) (hb.block _ z3) (hb.block _ z2)
theorem DW.alloc{w wr:World}{m r c:Nat}{seen:Array Nat}(h:DW w wr m r seen c)(o:Obj):DW w (wr.alloc o) m r seen c:=h.below ((Below.refl _ _).alloc (Nat.le_refl _) o)
theorem DW.g2{w wr w2:World}{m r c rb g:Nat}{seen:Array Nat}(h:DW w wr m r seen c)(hG:G2 wr w2 rb g)(h1:r<rb)(h2:r<g):DW w w2 m r seen c:=by
 obtain⟨z1,z2,z3⟩:=h.lt;have h3:=h.2.2.2;exact h.keep (hG.below (by omega) (by omega) (by omega)) (hG.block _ z1 (by omega) (by omega)) (hG.block _ z3 (by omega) (by omega)) (hG.block _ z2 (by omega) (by omega))
theorem DW.step{w wr w2:World}{m r c:Nat}{seen:Array Nat}{k:Int}(h:DW w wr m r seen c)(hS:zqK wr w2 m r seen k):DW w w2 m r (seen.push k.toNat) 5:=by
 obtain⟨z1,z2,z3⟩:=h.lt;obtain⟨_,hg,hs,hi,_⟩:=hS;have h3:=h.2.2.2;refine⟨h.1.trans (zaU hg (by omega) (by omega)),h.2.1.of_block (hg.block _ z1 (by intro e;have:=Option.some.inj e;omega)) hg.size,hi,h3⟩
def Tried(c0:UInt8)(s:List UInt8)(seen:Array Nat):Prop:=∀ k:Int,0<=k∧k<=4->seen.contains k.toNat=true->Ek.letter k=c0->znK k s=none
theorem Tried.push{c0:UInt8}{s:List UInt8}{seen:Array Nat}{k:Int}(h:Tried c0 s seen)(hk:0<=k∧k<=4)(ht:Ek.letter k=c0->znK k s=none):Tried c0 s (seen.push k.toNat):=by
 intro j hj hc hl;rw[contains_push,Bool.or_eq_true] at hc;rcases hc with hc|hc
 · exact h j hj hc hl
 · have e:j.toNat=k.toNat:=by simpa using hc
   obtain rfl:j=k:=by omega
   exact ht hl
theorem zkE(c:UInt8)(k:Int)(h:zeL c=some k):(0<=k∧k<=4)∧Ek.letter k=c:=by
 unfold zeL at h;split at h
 · rename_i e;cases h;exact⟨by decide,e.symm⟩
 split at h
 · rename_i e;cases h;exact⟨by decide,e.symm⟩
 split at h
 · rename_i e;cases h;exact⟨by decide,e.symm⟩
 split at h
 · rename_i e;cases h;exact⟨by decide,e.symm⟩
 split at h
 · rename_i e;cases h;exact⟨by decide,e.symm⟩
 · cases h
theorem zlA(s:List UInt8)(seen:Array Nat)(h:Tried (s.headD 0) s seen)(hall:∀ x∈fe5.toList,seen.contains x.born=true):zc6 s=none:=by
 unfold zc6;split
 · split
   · rename_i k hk;obtain⟨h1,h2⟩:=zkE _ _ hk;obtain⟨x,hx,hb⟩:=zrA k h1;exact h k h1 (by rw[<-hb];exact hall x hx) h2
   · rfl
 · rfl
theorem zlB(s:List UInt8)(k:Int)(x:Fu)(hl:32<=s.length∧s.length<=200)(hk:0<=k∧k<=4)(hc:Ek.letter k=s.headD 0)(ht:znK k s=some x):zc6 s=some x:=by
 unfold zc6;rw[if_pos hl,<-hc,zcZ k hk];exact ht
theorem zoY(k:Int)(n:ByteArray)(s:List UInt8 × Nat):(rdX k n s).1.1.name=n:=by
 unfold rdX;repeat' split
 all_goals rfl
theorem zs3(s:List UInt8)(k:Int)(t:ByteArray)(x:Fu)(st:List UInt8 × Nat)(ht:Ds.bl t=zd3 s)(hX:rdX k t (s.drop 32,0)=(x,st))(h1:Rd.fin st=0)(h2:okX x=true)(h3:ze9 x=s):znK k s=some x:=by
 unfold znK;rw[<-ht,Ds.mk_bl,hX,if_pos ⟨h1,h2,h3⟩]
theorem zu4(s:List UInt8)(k:Int)(t:ByteArray)(x:Fu)(st:List UInt8 × Nat)(ht:Ds.bl t=zd3 s)(hX:rdX k t (s.drop 32,0)=(x,st))(h:¬ (Rd.fin st=0∧okX x=true∧ze9 x=s)):znK k s=none:=by
 unfold znK;rw[<-ht,Ds.mk_bl,hX,if_neg h]
theorem zky(x:Fu)(al gr:Value)(w:World)(hm:MaxL w)(hT:Tab w)(hsz:x.1.name.size<=1000)(h1:IS w al x.2.1)(h2:GS w gr x.2.2)(s:ByteArray) :
  Calls Tryz.prog 32 #[.agg (x.1.vals al gr)] w fun r w'=>∃ t code,r=.returned (.tuple #[.string t,.int .i64 code])∧Below w.heap.size w w'∧((code=0∧(t.toList==s.toList)=true∧Hid (okX x=true∧ze9 x=Ds.bl s))∨(code=0∧(t.toList==s.toList)=false∧Hid (ze9 x≠Ds.bl s))∨(code=1∧Hid (okX x=false))):=by
 refine (zhy x.1 al gr x.2.1 x.2.2 w hm hT hsz h1 h2).mono ?_
 rintro r w' ⟨t,rfl,ht,hb⟩;refine⟨t,_,rfl,hb,?_⟩
 cases hx:okX (x.1,x.2.1,x.2.2)
 · exact Or.inr (Or.inr ⟨by simp,lh rfl⟩)
 · rw[hx] at ht;simp only[if_true] at ht
   by_cases e:t=s
   · exact Or.inl ⟨by simp,by rw[e];simp,lh ⟨rfl,by rw[<-e];exact ht.symm⟩⟩
   · refine Or.inr (Or.inl ⟨by simp,?_,lh (fun q=>e (Ds.bl_inj (ht.trans q)))⟩)
     rw[beq_eq_false_iff_ne];intro q;exact e ((znu t s).1 q)
attribute [local go_sem ↓] zaV zaW zaz
attribute [local go_sem] zav zap zal zae zaq zai zaw zao zas zan zaa zaj zaf zaA zax zak zag zar zaG
def zvh(w w':World)(s:List UInt8)(r:Ending):Prop:=∃ (x:Fu) (al gr:Value) (code:Int),r=.returned (.tuple #[.agg (x.1.vals al gr),.int .i64 code])∧IS w' al x.2.1∧GS w' gr x.2.2∧Below w.heap.size w w'∧(zc6 s=some x∧code=0∨zc6 s=none∧x=(En.zero,[],[])∧code=11)∧(∀ q,al.ownBlock=some q->w.heap.size<=q)∧(∀ q,gr.ownBlock=some q->w.heap.size<=q)
theorem zlC(s:ByteArray)(w:World)(h:s.size<32∨200<s.size) :
  Calls Tryz.prog 12 #[.string s] w fun r w'=>zvh w w' (Ds.bl s) r:=by
 have hd:zc6 (Ds.bl s)=none:=by unfold zc6;rw[if_neg (by rw[Ds.bl_length];omega)]
 have HD:=lh hd;clear hd
 have fin:∀ w':World,w'=w.alloc (.cells (zlit 0 ⟨#[]⟩) 40)->zvh w w' (Ds.bl s) (.returned (.tuple #[.agg (row w' w.heap.size),.int .i64 11])):=fun w' e=>by
  subst e;rw[zai,zbE];exact⟨(En.zero,[],[]),_,_,11,rfl,IS.nil _,GS.nil _,by exact zbo,Or.inr ⟨HD.out,rfl,rfl⟩,(fun _ h=>by cases h),(fun _ h=>by cases h)⟩
 have HF:=lh fin;clear fin;rcases h with h|h
 · have e1:decide ((s.size:Int)<32)=true:=by rw[decide_eq_true_eq];omega
   clear h;go_enter Tryz.func12,Tryz.ntmps12
   go_wp2_with fail
   refine bodyPost_ret (zaL (n:=32) rfl Tryz.underlying40 rfl (by kernel_rfl) _ _ w.heap.size rfl ?_) rfl ?_
   · rw[zai];rfl
   · exact HF.out _ rfl
 · have e1:decide ((s.size:Int)<32)=false:=by rw[decide_eq_false_iff_not];omega
   have e2:decide (200<(s.size:Int))=true:=by rw[decide_eq_true_eq];omega
   clear h;go_enter Tryz.func12,Tryz.ntmps12
   go_wp2_with fail
   refine bodyPost_ret (zaL (n:=32) rfl Tryz.underlying40 rfl (by kernel_rfl) _ _ w.heap.size rfl ?_) rfl ?_
   · rw[zai];rfl
   · exact HF.out _ rfl
theorem ReadsX.at{k:Int}{K:Nat}(h:ReadsX k K)(W:World)(o1:Array Value)(nq:Nat)(t1 t2 t3 t4:TypeId)(nm l:ByteArray)(hl:l.size<=1000) :
  Calls Tryz.prog K #[.pointer (some ⟨W.heap.size+1+1+1,0,none⟩),.pointer (some ⟨W.heap.size+1,0,none⟩)] (((((W.alloc (.cells o1 t1)).drewN nq).alloc (.cells (zlit k nm) t2)).alloc (.cells #[.string l,.int .i64 0] t3)).alloc (.cells #[.string ⟨#[]⟩,.pointer (some ⟨W.heap.size+1+1,0,none⟩)] t4)) fun r w'=>r=.returned (.tuple #[])∧∃ (x:Fu) (st:List UInt8 × Nat) (al gr:Value),rdX k nm (Ds.bl l,0)=(x,st)∧RS w' (W.heap.size+1+1+1) (W.heap.size+1+1) (W.heap.size+1) st (x.1.vals al gr)∧(IS w' al x.2.1∧∀ y,al.ownBlock=some y->W.heap.size+1<=y)∧(GS w' gr x.2.2∧∀ y,gr.ownBlock=some y->W.heap.size+1<=y)∧G2 (((((W.alloc (.cells o1 t1)).drewN nq).alloc (.cells (zlit k nm) t2)).alloc (.cells #[.string l,.int .i64 0] t3)).alloc (.cells #[.string ⟨#[]⟩,.pointer (some ⟨W.heap.size+1+1,0,none⟩)] t4)) w' (W.heap.size+1+1) (W.heap.size+1):=by
 have s2:(((W.alloc (.cells o1 t1)).drewN nq).alloc (.cells (zlit k nm) t2)).heap.size=W.heap.size+1+1:=by simp
 have hE:=EB.new ((W.alloc (.cells o1 t1)).drewN nq) (zlit k nm) t2;rw[show ((W.alloc (.cells o1 t1)).drewN nq).heap.size=W.heap.size+1 by simp] at hE;have hR:=ba2 _ (W.heap.size+1) l (Ds.bl l) (zlit k nm) t3 t4 rfl hE;rw[s2] at hR;rw[zbE] at hR;have hc:=h _ _ _ _ (Ds.bl l) nm (by rw[Ds.bl_length];exact hl) hR;rw[zbE];refine hc.mono ?_
 rintro r w' ⟨he,al,gr,h1,h2,h3,h4⟩;have s4:W.heap.size+1<=(((((W.alloc (.cells o1 t1)).drewN nq).alloc (.cells (zcells k nm) t2)).alloc (.cells #[.string l,.int .i64 0] t3)).alloc (.cells #[.string ⟨#[]⟩,.pointer (some ⟨W.heap.size+1+1,0,none⟩)] t4)).heap.size:=by simp
 exact⟨he,_,_,al,gr,rfl,h1,⟨h2.1,fun y hy=>Nat.le_trans s4 (h2.2 y hy)⟩,⟨h3.1,fun y hy=>Nat.le_trans s4 (h3.2 y hy)⟩,h4⟩
theorem zvE(s:ByteArray)(h:0<s.size):(Ds.bl s).headD 0=s[0]:=by
 rw[Ds.bl_get s 0 h,List.headD_eq_head?_getD,List.head?_eq_getElem?,List.getElem?_eq_getElem (by rw[Ds.bl_length];exact h)];rfl
theorem zlT(W:World):Calls Tryz.prog 29 #[] W fun r w'=>∃ m,r=.returned (.map (some m))∧MP m w'∧Below W.heap.size W w'∧W.heap.size<=m :=
 (zco W).mono fun _ _ ⟨he,hw⟩=>⟨_,he,by subst hw;exact⟨heap_alloc_new W _,by simp⟩,by subst hw;exact (Below.refl _ _).alloc (Nat.le_refl _) _,Nat.le_refl _⟩
theorem zrn{w w1 w2:World}{m:Nat}{t:TypeId}(hb1:Below (w.alloc (.cells (zlit 0 ⟨#[]⟩) t)).heap.size (w.alloc (.cells (zlit 0 ⟨#[]⟩) t)) w1)(hM:MP m w1)(hm:(w.alloc (.cells (zlit 0 ⟨#[]⟩) t)).heap.size<=m)(hI:Iter w2 m w1.heap.size #[] 5)(hb2:Below w1.heap.size w1 w2):DW w w2 m w1.heap.size #[] 5:=by
 have s1:(w.alloc (.cells (zlit 0 ⟨#[]⟩) t)).heap.size=w.heap.size+1:=by simp
 rw[s1] at hb1 hm;have h1:=hb1.size;rw[s1] at h1;have hE:=EB.new w (zlit 0 ⟨#[]⟩) t;rw[zbE] at hE;refine⟨?_,(hE.of_block (by rw[hb1.block _ (by omega),zbE]) (by rw[<-zbE,s1];omega)).of_block (hb2.block _ (by omega)) hb2.size,hI,by omega,hM.2⟩
 exact (((Below.refl _ _).alloc (Nat.le_refl _) _).trans (hb1.mono (by omega))).trans (hb2.mono (by omega))
theorem zrv(st:List UInt8 × Nat):(((Rd.fin st:Nat):Int)==0)=true∧Hid (Rd.fin st=0)∨(((Rd.fin st:Nat):Int)==0)=false∧Hid (Rd.fin st≠0):=by
 by_cases h:Rd.fin st=0
 · exact Or.inl ⟨by rw[h];rfl,lh h⟩
 · exact Or.inr ⟨by rw[beq_eq_false_iff_ne];omega,lh h⟩
theorem zjm{w wr:World}{m r c:Nat}{seen:Array Nat}(h:DW w wr m r seen c)(n:Nat):DW w (wr.drewN n) m r seen c:=h.below (below_drewN (Below.refl _ _) _)
theorem zs1{t s:ByteArray}(h:Ds.bl t=Ek.trim (Ds.bl (s.extract 1 32))):t.size<=1000:=by
 rw[<-Ds.bl_length,h];unfold Ek.trim;rw[List.length_take,Ds.bl_length];have:(s.extract 1 32).size<=31:=by simp;omega
 omega
theorem zn6(s:ByteArray)(w:World)(hm:MaxL w)(hT:Tab w)(h32:32<=s.size)(h200:s.size<=200) :
  Calls Tryz.prog 12 #[.string s] w fun r w'=>zvh w w' (Ds.bl s) r:=by
 have hz0:0<s.size:=by omega
 have HC0:=lh (zvE s hz0);have htr:=fun W=>zeG (s.extract 1 32) W (by simp;omega)
 have hlen:32<=(Ds.bl s).length∧(Ds.bl s).length<=200:=by rw[Ds.bl_length];exact⟨h32,h200⟩
 have hnm:Ek.trim (Ds.bl (s.extract 1 32))=zd3 (Ds.bl s):=by
  unfold zd3 Ds.bl;rw[ByteArray.data_extract,Array.toList_extract]
 have hrest:Ds.bl (s.extract 32 s.size)=(Ds.bl s).drop 32:=by
  unfold Ds.bl;rw[ByteArray.data_extract,Array.toList_extract];show (s.data.toList.drop 32).take (s.size - 32)=_
  rw[List.take_of_length_le (by rw[List.length_drop,Array.length_toList];exact Nat.le_refl _)]
 have HTR:=lh htr;have HNM:=lh hnm;have HRE:=lh hrest;have HLN:=lh hlen;clear htr hnm hrest hlen;have e1:decide ((s.size:Int)<32)=false:=by rw[decide_eq_false_iff_not];omega
 have e2:decide (200<(s.size:Int))=false:=by rw[decide_eq_false_iff_not];omega
 go_enter Tryz.func12,Tryz.ntmps12
 go_wp2_with (first
  | (go_at_call 29;(with_reducible refine (zlT _).mono ?_);rintro _ w1 ⟨m,rfl,hM,hb1,hmm⟩;have HM:=lh hM;have HB1:=lh hb1;have HMM:=lh hmm;clear hM hb1 hmm)
  | (at_range;refine zfP _ rfl _ rfl m rfl HM.out ?_;intro w2 hI hb2 hs2;have HD0:=lh (zrn HB1.out HM.out HMM.out hI hb2);clear hI hb2 hs2 HM HB1 HMM))
 go_frame
 go_loopw [23] (fun _ wr=>∃ (seen:Array Nat) (c:Nat),DW w wr m w1.heap.size seen c∧Tried s[0] (Ds.bl s) seen) (fun _ wr=>(leftOf fe5 (wr.iterSeen w1.heap.size)).size)
 case atStart=>exact⟨#[],5,HD0.out,fun k _ h=>by simp at h⟩
 case round =>
  clear HD0;obtain⟨seen,c,hD,hTr⟩:=hrel;have HD:=lh hD;have HTr:=lh hTr;clear hTr hD;have H33:=zgJ HD.out.2.1 (show (zcells 0 ⟨#[]⟩).size=33 from zaa _ _ _) (by decide);have hra:=fun (k:Int) (K:Nat) (h:ReadsX k K) W o1 nq t1 t2 t3 t4 nm=>ReadsX.at h W o1 nq t1 t2 t3 t4 nm (s.extract 32 s.size) (by simp;omega)
  unfold zlit at hra;have HRA:=lh hra;have hen2:=fun (x:Fu) (al gr:Value) (W:World) (hB:Below w.heap.size w W) h1 h2 h3=>zky x al gr W (hm.below hB) (hT.below hB) h1 h2 h3 s
  have HEN:=lh hen2;clear hra hen2
  go_wp2_with (first
   | (at_next;refine zfO _ rfl _ rfl m w1.heap.size c seen rfl HD.out.2.2.1 s[0] (fun hdone=>?_) (fun k li A K B w3 hne hS hen=>?_) (fun k A K B w3 hE hS hen=>?_)))
  · have hrow:row (wr.setRow w.heap.size (zlit 0 ⟨#[]⟩)) w.heap.size=zlit 0 ⟨#[]⟩:=zaQ H33 _;refine bodyPost_ret (zaL (n:=32) rfl Tryz.underlying40 rfl (by kernel_rfl) _ _ w.heap.size rfl ?_) rfl ?_
    · exact (congrArg Array.size hrow).trans rfl
    · refine⟨(En.zero,[],[]),.slice none 0 0,.slice none 0 0,11,?_,IS.nil _,GS.nil _,below_setRow HD.out.1 (Nat.le_refl _) _,Or.inr ⟨zlA _ seen (by rw[HC0.out];exact HTr.out) hdone.out,rfl,rfl⟩,(fun _ h=>by cases h),(fun _ h=>by cases h)⟩
      exact congrArg (fun z=>Ending.returned (.tuple #[.agg z,.int .i64 11])) (hrow.trans (zbE _ _))
  · go_quiet (fail)
    go_wp2_with fail
    go_roundw
    case rel=>exact⟨seen.push k.toNat,5,((HD.out.step hS.out.1).alloc _).below (below_drewN (Below.refl _ _) _),HTr.out.push hS.out.1.1 (fun e=>absurd e hS.out.2)⟩
    case measure=>rw[HD.out.2.2.1.seen,(zjm ((HD.out.step hS.out.1).alloc _) _).2.2.1.seen];exact hS.out.1.2.2.2.2
  · go_quiet (fail)
    have hDS:=HD.out.step hS.out.1;have HDS:=lh hDS;have zr:=hDS.lt.2.1;clear hDS
    go_wp2_with (first
     | (go_at_call 30;(refine (HTR.out _).mono ?_);rintro _ w4 ⟨t,rfl,ht,rfl⟩;have HT2:=lh ht;clear ht)
     | (go_at_call 31;(with_reducible refine (zgd _ _).mono ?_);rintro _ w4 ⟨rfl,rfl⟩)
     | ((with_reducible refine (HRA.out k K hS.out.2.2 _ _ _ _ _ _ _ _).mono ?_);rintro _ w5 ⟨rfl,x,st,al,gr,hX,hRS,hI,hGs,hG⟩;have HX:=lh hX;have HRS:=lh hRS;have HI:=lh hI;have HGs:=lh hGs;have q:=zoY k t (Ds.bl (s.extract 32 s.size),0);rw[hX] at q;have hsz:x.1.name.size<=1000:=(by rw[q];exact zs1 HT2.out);have hone:=zau x.1 al gr (zaP hI.1) (zaO hGs.1);have R5:=hRS.2.2.1.1;have Q5:=hRS.1;unfold CI at Q5;have D5:=lh (DW.g2 ((((zjm (HDS.out.alloc _) _).alloc _).alloc _).alloc _) hG (by omega) (by omega));clear hX hRS hI hGs hG)
     | (go_at_call 32;(refine (HEN.out x al gr _ D5.out.1 hsz HI.out.1 HGs.out.1).mono ?_);rintro _ w6 ⟨t',code,rfl,hb6,hcase⟩;have R6:=zaB hb6 R5 (by simp [zaa]);have Q6:=(hb6.cell (p:=⟨w3.heap.size+1+1+1,1,none⟩) HRS.out.2.2.2.2.2.2.1).trans Q5;have D6:=lh (D5.out.below hb6);have RL6:=lh (HRS.out.2.1.below hb6 HRS.out.2.2.2.2.2.2.2);have HB6:=lh hb6;have H6:=zgJ D6.out.2.1 (show (zcells 0 ⟨#[]⟩).size=33 from zaa _ _ _) (by decide);clear hb6;rcases hcase with ⟨rfl,hne,hh⟩|⟨rfl,hne,hh⟩|⟨rfl,hh⟩)
     | (go_at_call 33;(with_reducible refine (zqk _ st _ RL6.out).mono ?_);rintro _ w7 ⟨rfl,rfl⟩;rcases zrv st with ⟨hf,hf2⟩|⟨hf,hf2⟩))
    · have hrow:row (w6.setRow w.heap.size (x.1.vals al gr)) w.heap.size=x.1.vals al gr:=zaQ H6 _;refine bodyPost_ret (zaL (n:=32) rfl Tryz.underlying40 rfl (by kernel_rfl) _ _ w.heap.size rfl ?_) rfl ?_
      · exact (congrArg Array.size hrow).trans (zaa _ _ _)
      · have zz:=HDS.out.lt.1;have hkeep:∀ j,w.heap.size+1<=j->j<w6.heap.size->(w6.setRow w.heap.size (x.1.vals al gr)).heap[j]?=w6.heap[j]?:=fun j h1 _=>zaX _ _ _ _ (by omega)
        refine⟨x,al,gr,0,congrArg (fun z=>Ending.returned (.tuple #[.agg z,.int .i64 0])) hrow,(HI.out.1.below HB6.out).keep (w.heap.size+1) (fun y hy=>by have:=HI.out.2 y hy;omega) (by simp) hkeep,(HGs.out.1.below HB6.out).keep (w.heap.size+1) (fun y hy=>by have:=HGs.out.2 y hy;omega) (by simp) hkeep,below_setRow D6.out.1 (Nat.le_refl _) _,Or.inl ⟨?_,rfl⟩,(fun y hy=>by have:=HI.out.2 y hy;omega),(fun y hy=>by have:=HGs.out.2 y hy;omega)⟩
        exact zlB _ k x HLN.out hS.out.1.1 (by rw[HC0.out];exact hS.out.2.1) (zs3 _ k t x st (HT2.out.trans HNM.out) (by rw[<-HRE.out];exact HX.out) hf2.out hh.out.1 hh.out.2)
    all_goals
     refine⟨⟨seen.push k.toNat,5,D6.out,HTr.out.push hS.out.1.1 (fun _=>zu4 _ k t x st (HT2.out.trans HNM.out) (by rw[<-HRE.out];exact HX.out) ?_)⟩,?_⟩
     · rintro ⟨a,b,c⟩
       first
       | exact hf2.out a
       | exact hh.out c
       | (rw[hh.out] at b;cases b)
     · rw[HD.out.2.2.1.seen,D6.out.2.2.1.seen];exact hS.out.1.2.2.2.2
theorem zf6(s:ByteArray)(w:World)(hm:MaxL w)(hT:Tab w) :
  Calls Tryz.prog 12 #[.string s] w fun r w'=>zvh w w' (Ds.bl s) r:=by
 by_cases h:s.size<32∨200<s.size
 · exact zlC s w h
 · exact zn6 s w hm hT (by omega) (by omega)
end
end Go.Proofs.YtefcmdmfgdcpmaaGreatDoor
