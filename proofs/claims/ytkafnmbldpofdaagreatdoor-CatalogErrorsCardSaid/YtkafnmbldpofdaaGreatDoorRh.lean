/- Contract of the reference of chapter 33: fields at any kind, Decode. -/
import Derived.Test.YtkafnmbldpofdaaGreatDoorRy
import Derived.Test.YtkafnmbldpofdaaGreatDoorAcA
import Derived.Test.YtkafnmbldpofdaaGreatDoorDcA
import Derived.Test.YtkafnmbldpofdaaGreatDoorRtF
import Derived.Test.YtkafnmbldpofdaaGreatDoorRg0
import Derived.Deep.CutBlock
namespace Go.Proofs.YtkafnmbldpofdaaGreatDoor
open Go.RowKit
section
theorem zgM{w:World}{g p n m:Nat}(h:Held w g n)(h2:Held w p m)(hn:n≠m):g≠p:=fun e=>by subst e;exact hn (h.1.symm.trans h2.1)
theorem zca(w:World)(o:Obj)(g n:Nat)(h:Held w g n):Held (w.alloc o) g n:=h.below ((Below.refl _ _).alloc (Nat.le_refl _) o)
theorem zhp(w:World)(cs:Array Value)(t:TypeId)(h:cs.size=33):Held (w.alloc (.cells cs t)) w.heap.size 33:=Held.new w cs t _ h (by decide)
theorem zsV(w:World)(cs:Array Value)(t:TypeId)(h:cs.size=2):Held (w.alloc (.cells cs t)) w.heap.size 2:=Held.new w cs t _ h (by decide)
theorem zc2(w:World)(c:Array Value)(g p:Nat)(h:Held w g 33)(h2:Held w p 2):Held (w.setRow p c) g 33:=h.set c (fun e=>absurd e.symm (zgM h h2 (by decide)))
theorem zcT(w:World)(c:Array Value)(g p:Nat)(h:Held w g 2)(h2:Held w p 33):Held (w.setRow p c) g 2:=h.set c (fun e=>absurd e.symm (zgM h h2 (by decide)))
theorem zcQ(w:World)(e:En)(al gr:Value)(g p:Nat)(h:Held w g 33):Held (w.setRow p (e.vals al gr)) g 33:=h.set _ (fun _=>zab _ _ _)
theorem zjN(w:World)(e:En)(al gr:Value)(t:TypeId):Held (w.alloc (.cells (e.vals al gr) t)) w.heap.size 33:=zhp _ _ _ (zab _ _ _)
theorem zj7(w:World)(e:En)(al gr:Value)(t:TypeId)(o:Obj):Held ((w.alloc o).alloc (.cells (e.vals al gr) t)) (w.heap.size+1) 33:=by
 have:=zjN (w.alloc o) e al gr t
 rwa [show (w.alloc o).heap.size=w.heap.size+1 by simp] at this
theorem zeu(w:World)(t:TypeId):Held (w.alloc (.cells #[.int .i64 0,.string ⟨#[]⟩,.int .i64 0,.int .i64 0,.int .i64 0,.int .i64 0,.int .i64 0,.int .i64 0,.int .i64 0,.int .i64 0,.int .i64 0,.int .i64 0,.int .i64 0,.int .i64 0,.int .i64 0,.int .i64 0,.bool false,.int .i64 0,.string ⟨#[]⟩,.string ⟨#[]⟩,.int .i64 0,.int .i64 0,.bool false,.slice none 0 0,.int .i64 0,.int .i64 0,.int .i64 0,.bool false,.string ⟨#[]⟩,.string ⟨#[]⟩,.int .i64 0,.int .i64 0,.slice none 0 0] t)) w.heap.size 33:=zhp _ _ _ rfl
theorem zh1(w:World)(t:TypeId)(o:Obj):Held ((w.alloc (.cells #[.int .i64 0,.string ⟨#[]⟩,.int .i64 0,.int .i64 0,.int .i64 0,.int .i64 0,.int .i64 0,.int .i64 0,.int .i64 0,.int .i64 0,.int .i64 0,.int .i64 0,.int .i64 0,.int .i64 0,.int .i64 0,.int .i64 0,.bool false,.int .i64 0,.string ⟨#[]⟩,.string ⟨#[]⟩,.int .i64 0,.int .i64 0,.bool false,.slice none 0 0,.int .i64 0,.int .i64 0,.int .i64 0,.bool false,.string ⟨#[]⟩,.string ⟨#[]⟩,.int .i64 0,.int .i64 0,.slice none 0 0] t)).alloc o) w.heap.size 33:=zca _ _ _ _ (zeu _ _)
theorem zhP(w:World)(t:TypeId)(o:Obj):Held ((w.alloc o).alloc (.cells #[.int .i64 0,.string ⟨#[]⟩,.int .i64 0,.int .i64 0,.int .i64 0,.int .i64 0,.int .i64 0,.int .i64 0,.int .i64 0,.int .i64 0,.int .i64 0,.int .i64 0,.int .i64 0,.int .i64 0,.int .i64 0,.int .i64 0,.bool false,.int .i64 0,.string ⟨#[]⟩,.string ⟨#[]⟩,.int .i64 0,.int .i64 0,.bool false,.slice none 0 0,.int .i64 0,.int .i64 0,.int .i64 0,.bool false,.string ⟨#[]⟩,.string ⟨#[]⟩,.int .i64 0,.int .i64 0,.slice none 0 0] t)) (w.heap.size+1) 33:=by
 have:=zeu (w.alloc o) t
 rwa [show (w.alloc o).heap.size=w.heap.size+1 by simp] at this
theorem zhw(w:World)(t:TypeId):Held (w.alloc (.cells #[.string ⟨#[]⟩,.int .i64 0] t)) w.heap.size 2:=zsV _ _ _ rfl
theorem zix(w:World)(t:TypeId)(o:Obj):Held ((w.alloc (.cells #[.string ⟨#[]⟩,.int .i64 0] t)).alloc o) w.heap.size 2:=zca _ _ _ _ (zhw _ _)
theorem ziM(w:World)(t:TypeId)(o:Obj):Held ((w.alloc o).alloc (.cells #[.string ⟨#[]⟩,.int .i64 0] t)) (w.heap.size+1) 2:=by
 have:=zhw (w.alloc o) t
 rwa [show (w.alloc o).heap.size=w.heap.size+1 by simp] at this
theorem zeK(w:World)(c:Array Value)(p:Nat)(h:Held w p 33):row (w.setRow p c) p=c:=zad h c
theorem zeJ(w:World)(c:Array Value)(p:Nat)(h:Held w p 2):row (w.setRow p c) p=c:=zad h c
theorem zc3(w:World)(c:Array Value)(g p:Nat)(h:Held w g 33)(h2:Held w p 2):row (w.setRow p c) g=row w g:=zaP _ _ _ _ (zgM h h2 (by decide))
theorem zc1(w:World)(c:Array Value)(g p:Nat)(h:Held w g 2)(h2:Held w p 33):row (w.setRow p c) g=row w g:=zaP _ _ _ _ (zgM h h2 (by decide))
theorem zrm(w:World)(o:Obj)(g:Nat)(h:Held w g 33):row (w.alloc o) g=row w g:=zae ((Below.refl _ _).alloc (Nat.le_refl _) o) rfl (by rw[h.1];decide)
end
section
set_option maxHeartbeats 16000000
set_option maxRecDepth 8000
set_option linter.unusedSimpArgs false
def FldR(w w':World)(x:Fu)(st:List UInt8 × Nat)(r:Ending):Prop:=∃ (al gr:Value) (t:ByteArray),r=.returned (.tuple #[.agg (x.1.vals al gr),.agg #[.string t,.int .i64 st.2]])∧IS w' al x.2.1∧GS w' gr x.2.2∧Ds.bl t=st.1∧Below w.heap.size w w'∧(∀ y,al.ownBlock=some y->w.heap.size<=y)∧(∀ y,gr.ownBlock=some y->w.heap.size<=y)
theorem zeF:∀ (w:World) (y:Nat),(Value.slice none 0 0).ownBlock=some y->w.heap.size<=y:=fun _ _ h=>by cases h
theorem zs7(n:ByteArray)(s:List UInt8 × Nat):rrX 0 n s=(((rrD (En.base 0 n) s).1,(rrD (En.base 0 n) s).2.1,[]),(rrD (En.base 0 n) s).2.2):=by unfold rrX;rw[if_pos rfl]
theorem zsu(n:ByteArray)(s:List UInt8 × Nat):rrX 1 n s=(((rrG (En.base 1 n) s).1,[],[]),(rrG (En.base 1 n) s).2):=by unfold rrX;rw[if_neg (by decide),if_pos rfl]
theorem zrs(n:ByteArray)(s:List UInt8 × Nat):rrX 2 n s=(((rrA (En.base 2 n) s).1,[],[]),(rrA (En.base 2 n) s).2):=by unfold rrX;rw[if_neg (by decide),if_neg (by decide),if_pos rfl]
theorem zrU(n:ByteArray)(s:List UInt8 × Nat):rrX 3 n s=(((rrC (En.base 3 n) s).1,[],[]),(rrC (En.base 3 n) s).2):=by unfold rrX;rw[if_neg (by decide),if_neg (by decide),if_neg (by decide),if_pos rfl]
theorem zr4(n:ByteArray)(s:List UInt8 × Nat):rrX 4 n s=(((rrP (En.base 4 n) s).1,[],(rrP (En.base 4 n) s).2.1),(rrP (En.base 4 n) s).2.2):=by unfold rrX;rw[if_neg (by decide),if_neg (by decide),if_neg (by decide),if_neg (by decide)]
theorem zhQ(k:Int)(hk:0<=k∧k<=4)(nm l:ByteArray)(w:World)(hl:l.size<=1000) :
  Calls Tryz.prog 270 #[.agg (zlit k nm),.agg #[.string l,.int .i64 0]] w fun r w'=>FldR w w' (rrX k nm (Ds.bl l,0)).1 (rrX k nm (Ds.bl l,0)).2 r:=by
 rcases (by omega:k=0∨k=1∨k=2∨k=3∨k=4) with rfl|rfl|rfl|rfl|rfl
 · have h:=rfields0 nm l w hl
   rw[zs7]
   generalize rrD (En.base 0 nm) (Ds.bl l,0)=R at h ⊢
   refine h.mono ?_
   rintro r w' ⟨al,t,rfl,h1,h2,h3,h4⟩
   exact⟨al,.slice none 0 0,t,rfl,h1,GS.nil _,h2,h3,h4,zeF w⟩
 · have h:=rfields1 nm l w hl
   rw[zsu]
   generalize rrG (En.base 1 nm) (Ds.bl l,0)=R at h ⊢
   refine h.mono ?_
   rintro r w' ⟨t,rfl,h2,h3⟩
   exact⟨.slice none 0 0,.slice none 0 0,t,rfl,IS.nil _,GS.nil _,h2,h3,zeF w,zeF w⟩
 · have h:=rfields2 nm l w hl
   rw[zrs]
   generalize rrA (En.base 2 nm) (Ds.bl l,0)=R at h ⊢
   refine h.mono ?_
   rintro r w' ⟨t,rfl,h2,h3⟩
   exact⟨.slice none 0 0,.slice none 0 0,t,rfl,IS.nil _,GS.nil _,h2,h3,zeF w,zeF w⟩
 · have h:=rfields3 nm l w hl
   rw[zrU]
   generalize rrC (En.base 3 nm) (Ds.bl l,0)=R at h ⊢
   refine h.mono ?_
   rintro r w' ⟨t,rfl,h2,h3⟩
   exact⟨.slice none 0 0,.slice none 0 0,t,rfl,IS.nil _,GS.nil _,h2,h3,zeF w,zeF w⟩
 · have h:=rfields4 nm l w hl
   rw[zr4]
   generalize rrP (En.base 4 nm) (Ds.bl l,0)=R at h ⊢
   refine h.mono ?_
   rintro r w' ⟨gr,t,rfl,h1,h2,h3,h4⟩
   exact⟨.slice none 0 0,gr,t,rfl,IS.nil _,h1,h2,h3,zeF w,h4⟩
theorem zmW(k:Int)(hk:0<=k∧k<=4)(n:ByteArray)(s:List UInt8 × Nat):(rrX k n s).1.1.name=n:=by
 rcases (by omega:k=0∨k=1∨k=2∨k=3∨k=4) with rfl|rfl|rfl|rfl|rfl
 · rw[zs7];unfold rrD;rfl
 · rw[zsu];unfold rrG;rfl
 · rw[zrs];rfl
 · rw[zrU];rfl
 · rw[zr4];unfold rrP;rfl
theorem zll(s:ByteArray)(h:s.size<32∨200<s.size):zc6 (Ds.bl s)=none:=by
 unfold zc6;rw[if_neg (by rw[Ds.bl_length];omega)]
structure DR (wr W:World) (p r:Nat) (x:Fu) (al gr:Value) (t:ByteArray) (st:List UInt8 × Nat):Prop where
 bel:Below wr.heap.size wr W
 p0:wr.heap.size<=p
 rp:row W p=x.1.vals al gr
 hp:Held W p 33
 rr:row W r=#[.string t,.int .i64 st.2]
 is:IS W al x.2.1
 gs:GS W gr x.2.2
 ao:∀ y,al.ownBlock=some y->wr.heap.size<=y
 go:∀ y,gr.ownBlock=some y->wr.heap.size<=y
 tx:Ds.bl t=st.1
theorem zoS{W:World}{al:Value}{l:List Int}{p:Nat}{c:Array Value}(h:IS W al l)(hs:∀ y,al.ownBlock=some y->l≠[]->y≠p):IS (W.setRow p c) al l:=by
 obtain⟨a,cc,rfl,h2,h3⟩:=h
 refine⟨a,cc,rfl,h2,fun h0=>?_⟩
 obtain⟨bb,o,rfl,hlt,hc⟩:=h3 h0
 have hb:=hs bb rfl (by intro e;rw[e] at h0;simp at h0)
 exact⟨bb,o,rfl,by simpa using hlt,fun k hk'=>(World.cell?_of_block (a:=⟨bb,o+k,none⟩) (zaN W p bb c hb)).trans (hc k hk')⟩
theorem znY{W:World}{al:Value}{l:List Gr}{p:Nat}{c:Array Value}(h:GS W al l)(hs:∀ y,al.ownBlock=some y->l≠[]->y≠p):GS (W.setRow p c) al l:=by
 obtain⟨a,cc,rfl,h2,h3⟩:=h
 refine⟨a,cc,rfl,h2,fun h0=>?_⟩
 obtain⟨bb,o,rfl,hlt,hc⟩:=h3 h0
 have hb:=hs bb rfl (by intro e;rw[e] at h0;simp at h0)
 have e:=zaN W p bb c hb
 refine⟨bb,o,rfl,by simpa using hlt,fun k hk'=>?_⟩
 obtain⟨q1,q2,q3⟩:=hc k hk'
 exact⟨(World.cell?_of_block (a:=⟨bb,o+k*3,none⟩) e).trans q1,(World.cell?_of_block (a:=⟨bb,o+k*3+1,none⟩) e).trans q2,(World.cell?_of_block (a:=⟨bb,o+k*3+2,none⟩) e).trans q3⟩
theorem zti{W:World}{al:Value}{l:List Int}(h:IS W al l):∀ y,al.ownBlock=some y->l≠[]->y<W.heap.size:=by
 obtain⟨a,cc,rfl,h2,h3⟩:=h
 intro y hy h0
 obtain⟨bb,o,rfl,hlt,hc⟩:=h3 (List.length_pos_iff.2 h0)
 cases hy
 exact hlt
theorem ztN{W:World}{al:Value}{l:List Gr}(h:GS W al l):∀ y,al.ownBlock=some y->l≠[]->y<W.heap.size:=by
 obtain⟨a,cc,rfl,h2,h3⟩:=h
 intro y hy h0
 obtain⟨bb,o,rfl,hlt,hc⟩:=h3 (List.length_pos_iff.2 h0)
 cases hy
 exact hlt
theorem DR.below{wr W W':World}{p r:Nat}{x:Fu}{al gr:Value}{t:ByteArray}{st:List UInt8 × Nat}(h:DR wr W p r x al gr t st)(hb:Below W.heap.size W W'):DR wr W' p r x al gr t st :=
 ⟨bt h.bel hb,h.p0,zae hb h.rp (by rw[zab];decide),h.hp.below hb,zae hb h.rr (Nat.zero_lt_succ 1),h.is.below hb,h.gs.below hb,h.ao,h.go,h.tx⟩
def TrR(c0:UInt8)(s:List UInt8)(k:Nat):Prop:=∀ j:Int,0<=j->j<k->Ek.letter j=c0->zlq j s=none
theorem TrR.next{c0:UInt8}{s:List UInt8}{k:Nat}(h:TrR c0 s k)(h2:Ek.letter k=c0->zlq k s=none):TrR c0 s (k+1):=by
 intro j h0 h1 hl
 by_cases e:j=k
 · subst e;exact h2 hl
 · exact h j h0 (by omega) hl
theorem TrR.all{s:List UInt8}(h:TrR (s.headD 0) s 5)(hl:32<=s.length∧s.length<=200):zc6 s=none:=by
 rw[zja s hl]
 cases hk:zeG (s.headD 0) with
 | none=>rfl
 | some k =>
   simp only
   have:0<=k∧k<5∧Ek.letter k=s.headD 0:=by
    unfold zeG at hk
    (repeat' split at hk) <;> first|(cases hk;rename_i e;exact⟨by decide,by decide,e.symm⟩)|cases hk
   exact h k this.1 this.2.1 this.2.2
theorem zqr(s:List UInt8)(k:Int)(x:Fu)(hl:32<=s.length∧s.length<=200)(hk:0<=k∧k<=4)(hc:Ek.letter k=s.headD 0)(h:zlq k s=some x):zc6 s=some x:=by
 rw[zja s hl,<-hc,zcm k hk];exact h
theorem zqe(s:ByteArray)(h32:32<=s.size)(i:Nat)(hi:i<=31)(h:Ek.tlen ((Ds.bl s).drop 1 |>.take 31) 31=i):Ds.bl (s.extract 1 (i+1))=zds (Ds.bl s):=by
 unfold zds Ek.trim
 have hl:(((Ds.bl s).drop 1).take 31).length=31:=by rw[List.length_take,List.length_drop,Ds.bl_length];omega
 rw[hl,h,List.take_take,Nat.min_eq_left hi]
 unfold Ds.bl
 rw[ByteArray.data_extract,Array.toList_extract];rfl
theorem zqU(s:ByteArray)(h32:32<=s.size)(i:Nat)(hi:i<31):((Ds.bl s).drop 1 |>.take 31)[i]?=some (s[i+1]'(by omega)):=by
 rw[List.getElem?_take_of_lt hi,List.getElem?_drop]
 unfold Ds.bl
 rw[Nat.add_comm 1 i,List.getElem?_eq_getElem (by simp;omega)]
 rfl
attribute [local go_sem ↓] zaX za0 zaD zpe zq5
attribute [local go_sem] zaA zas zan zah zat zai zau zaf zak zaq zab zap zaj zaE zaC zao zam zax
theorem zjL(s:ByteArray)(w:World)(h:s.size<32∨200<s.size) :
  Calls Tryz.prog 205 #[.string s] w fun r w'=>zot w w' (Ds.bl s) r:=by
 have HD:=lh (zll s h)
 have fin:∀ w':World,w'=w.alloc (.cells (zlit 0 ⟨#[]⟩) 32)->zot w w' (Ds.bl s) (.returned (.tuple #[.agg (row w' w.heap.size),.int .i64 11])):=fun w' e=>by
  subst e
  rw[zai,zbA]
  exact⟨(En.zero,[],[]),_,_,11,rfl,IS.nil _,GS.nil _,by exact za4,Or.inr ⟨HD.out,rfl,rfl⟩,(fun _ h=>by cases h),(fun _ h=>by cases h)⟩
 have HF:=lh fin
 clear fin
 rcases h with h|h
 · have e1:decide ((s.size:Int)<32)=true:=by rw[decide_eq_true_eq];omega
   clear h
   go_enter Tryz.func205,Tryz.ntmps205
   go_wp2_with fail
   refine bodyPost_ret (zaK (n:=32) rfl Tryz.underlying32 rfl (by kernel_rfl) _ _ w.heap.size rfl ?_) rfl ?_
   · rw[zai];rfl
   · exact HF.out _ rfl
 · have e1:decide ((s.size:Int)<32)=false:=by rw[decide_eq_false_iff_not];omega
   have e2:decide (200<(s.size:Int))=true:=by rw[decide_eq_true_eq];omega
   clear h
   go_enter Tryz.func205,Tryz.ntmps205
   go_wp2_with fail
   refine bodyPost_ret (zaK (n:=32) rfl Tryz.underlying32 rfl (by kernel_rfl) _ _ w.heap.size rfl ?_) rfl ?_
   · rw[zai];rfl
   · exact HF.out _ rfl
theorem zj0(k:Nat)(h:k<5)(w:World):(Instr.index 9 (.string ⟨#[68,71,65,67,80]⟩) (.int .i64 (k:Int))).run Tryz.prog w=.ok (.int .u8 ((Ek.letter k).toNat:Int)) w:=by
 rcases (by omega:k=0∨k=1∨k=2∨k=3∨k=4) with rfl|rfl|rfl|rfl|rfl <;> kernel_rfl
def zof(x:Fu):ByteArray:=if okX x=true then ⟨(zdV x).toArray⟩ else ⟨#[]⟩
theorem zrt(x:Fu)(al gr:Value)(code:Int)(hc:code=if okX x=true then 0 else 1)(w:World)(hsz:x.1.name.size<=60)(h1:IS w al x.2.1)(h2:GS w gr x.2.2) :
  Calls Tryz.prog 149 #[.agg (x.1.vals al gr)] w fun r w'=>r=.returned (.tuple #[.string (zof x),.int .i64 code])∧Below w.heap.size w w':=by
 subst hc
 refine (zjg x al gr w hsz h1 h2).mono ?_
 rintro r w' ⟨t,rfl,ht,hb⟩
 obtain rfl:t=zof x:=by
  refine Ds.bl_inj (ht.trans ?_)
  unfold zof
  split
  · rw[Ds.bl_mk]
  · rfl
 exact⟨rfl,hb⟩
def Hit(x:Fu)(st:List UInt8 × Nat)(s:ByteArray):Prop:=Rd.fin st=0∧okX x=true∧zdV x=Ds.bl s
theorem zl8(x:Fu)(st:List UInt8 × Nat)(s:ByteArray)(code:Int)(hc:code=if okX x=true then 0 else 1):((((Rd.fin st:Nat):Int)==0)=false∧Hid (¬ Hit x st s))∨((((Rd.fin st:Nat):Int)==0)=true∧(code==0)=false∧Hid (¬ Hit x st s))∨((((Rd.fin st:Nat):Int)==0)=true∧(code==0)=true∧((zof x).toList==s.toList)=false∧Hid (¬ Hit x st s))∨((((Rd.fin st:Nat):Int)==0)=true∧(code==0)=true∧((zof x).toList==s.toList)=true∧Hid (Hit x st s)):=by
 unfold Hit
 subst hc
 rcases zk8 st with ⟨h1,h2⟩|⟨h1,h2⟩
 · cases h3:okX x
   · exact .inr (.inl ⟨h1,rfl,lh (by simp)⟩)
   · have hq:zof x=⟨(zdV x).toArray⟩:=by unfold zof;rw[if_pos h3]
     have hb:((zof x).toList==s.toList)=decide (zdV x=Ds.bl s):=by
      rw[hq,Bool.eq_iff_iff,beq_iff_eq,decide_eq_true_eq,zg2]
      constructor
      · intro e;rw[<-e,Ds.bl_mk]
      · intro e;exact Ds.bl_inj ((Ds.bl_mk _).trans e)
     by_cases h4:zdV x=Ds.bl s
     · exact .inr (.inr (.inr ⟨h1,rfl,hb.trans (decide_eq_true h4),lh ⟨h2.out,rfl,h4⟩⟩))
     · exact .inr (.inr (.inl ⟨h1,rfl,hb.trans (decide_eq_false h4),lh (fun h=>h4 h.2.2)⟩))
 · exact .inl ⟨h1,lh (fun h=>h2.out h.1)⟩
attribute [local go_sem] zeu zh1 zhP zhw zix ziM zca zcT
attribute [local go_sem ↓ high] za0
theorem zk3(s:ByteArray)(w:World)(h32:32<=s.size)(h200:s.size<=200) :
  Calls Tryz.prog 205 #[.string s] w fun r w'=>zot w w' (Ds.bl s) r:=by
 have hz0:0<s.size:=by omega
 have hz0i:(0:Int)<(s.size:Int):=by omega
 have HC0:=lh (zrJ s hz0)
 have hlen:32<=(Ds.bl s).length∧(Ds.bl s).length<=200:=by rw[Ds.bl_length];exact⟨h32,h200⟩
 have hrest:Ds.bl (s.extract 32 s.size)=(Ds.bl s).drop 32:=by
  unfold Ds.bl
  rw[ByteArray.data_extract,Array.toList_extract]
  show (s.data.toList.drop 32).take (s.size - 32)=_
  rw[List.take_of_length_le (by rw[List.length_drop,Array.length_toList];exact Nat.le_refl _)]
 have hzr:(s.extract 32 s.size).size<=1000:=by simp;omega
 have HRE:=lh hrest
 have HLN:=lh hlen
 have HZR:=lh hzr
 have HBI:=lh (fun i hi=>zqU s h32 i hi)
 have HNA:=lh (fun i hi h=>zqe s h32 i hi h)
 obtain⟨lst,hlst⟩:∃ lst,((Ds.bl s).drop 1).take 31=lst:=⟨_,rfl⟩
 rw[hlst] at HBI HNA
 clear hrest hlen hzr hlst
 have e1:decide ((s.size:Int)<32)=false:=by rw[decide_eq_false_iff_not];omega
 have e2:decide (200<(s.size:Int))=false:=by rw[decide_eq_false_iff_not];omega
 have HH:=lh (Held.new w (zlit 0 ⟨#[]⟩) 32 33 rfl (by decide))
 have hzz:zlit 0 ⟨#[]⟩=En.zero.vals (.slice none 0 0) (.slice none 0 0):=zbA _ _
 have zone:zaV (zlit 0 ⟨#[]⟩).toList=true:=by rw[hzz];exact zav _ _ _ rfl rfl
 have HZZ:=lh hzz
 clear hzz
 unfold zlit at zone
 go_enter Tryz.func205,Tryz.ntmps205
 go_wp2_with fail
 go_loopw [4] (fun kv wr=>∃ k:Nat,k<=5∧kv=.int .i64 k∧TrR s[0] (Ds.bl s) k∧Held wr w.heap.size 33∧Below w.heap.size w wr) (fun kv _=>5 - (intOf kv).toNat)
 case atStart=>exact⟨0,by omega,rfl,(fun j h0 h1=>by omega),HH.out,by exact za4⟩
 case round =>
  obtain⟨k,hk,rfl,hTr,hH,B⟩:=hrel
  have HTr:=lh hTr
  have HH1:=lh hH
  have HB:=lh B
  have z0:=hH.lt
  clear hTr hH B HH
  by_cases hlt:k<5
  · have t4:decide ((k:Int)<=4)=true:=by rw[decide_eq_true_eq];omega
    have hix:=fun W=>zj0 k hlt W
    have HTI:Hid (Ek.letter k≠s[0]->TrR s[0] (Ds.bl s) (k+1)):=lh (fun h=>HTr.out.next (fun e=>absurd e h))
    by_cases hc:Ek.letter k=s[0]
    rotate_left
    · have t1:((s[0].toNat:Int) != ((Ek.letter k).toNat:Int))=true:=by rw[bne_iff_ne];intro h;exact hc (UInt8.toNat_inj.1 (by omega))
      have HQ:=lh (HTI.out hc)
      clear hc
      go_wp2_with fail
      go_quiet (fail)
      go_wp2_with fail
      go_roundw
      case rel=>exact⟨k+1,by omega,by go_num,HQ.out,HH1.out,HB.out.trans ⟨rfl,rfl,rfl,Nat.le_refl _,fun _ _=>rfl⟩⟩
      case measure=>simp [intOf];omega
    have t1:((s[0].toNat:Int) != ((Ek.letter k).toNat:Int))=false:=by rw[hc];simp
    have HC:=lh hc
    clear hc HTI
    obtain⟨wo,hwo⟩:∃ wo,wo=wr:=⟨_,rfl⟩
    subst hwo
    go_wp2_with fail
    go_quiet (fail)
    go_upto_block 2 with fail
    generalize hW:World.drewN wo _=W0
    have hw0:Below wo.heap.size wo W0:=by rw[<-hW];exact⟨rfl,rfl,rfl,Nat.le_refl _,fun _ _=>rfl⟩
    clear hW hix t1
    go_cut [5] from 28 to 38 (fun t5 wx=>∃ i:Nat,i<=31∧t5=.int .i64 ((i+1:Nat):Int)∧Ek.tlen lst 31=i∧wx=W0)
    case first =>
     go_wp2_with fail
     go_loopw [5] (fun ev wr2=>∃ i:Nat,i<=31∧ev=.int .i64 ((i+1:Nat):Int)∧Ek.tlen lst 31=Ek.tlen lst i∧wr2=W0) (fun ev _=>(intOf ev).toNat)
     case atStart=>exact⟨31,by omega,rfl,rfl,rfl⟩
     case round =>
      obtain⟨i,hi,rfl,ht,rfl⟩:=hrel
      have HE:=lh ht
      clear ht
      by_cases h0:0<i
      · obtain⟨j,rfl⟩:∃ j,i=j+1:=⟨i - 1,by omega⟩
        have hjs:j+1<s.size:=by omega
        have hji:((j:Int)+1)<(s.size:Int):=by omega
        have t7:decide ((1:Int)<(j:Int)+1+1)=true:=by rw[decide_eq_true_eq];omega
        have HJ:=lh (HBI.out j (by omega))
        have hx:=zsR s[j+1]
        by_cases h3:s[j+1]=32
        · rw[decide_eq_true h3] at hx
          have H3:=lh h3
          clear h3
          go_wp2_with fail
          go_roundw
          case rel=>exact⟨j,by omega,by go_num,by rw[HE.out];exact Ek.tlen_yes _ _ (by rw[HJ.out,H3.out]),by trivial⟩
          case measure=>simp [intOf];try omega
        · rw[decide_eq_false h3] at hx
          have H3:=lh h3
          clear h3
          go_wp2_with fail
          go_meet
          exact⟨j+1,hi,by go_num,by rw[HE.out];exact Ek.tlen_no _ _ (by rw[HJ.out];intro e;exact H3.out (Option.some.inj e)),by trivial⟩
      · obtain rfl:i=0:=by omega
        go_wp2_with fail
        go_meet
        exact⟨0,hi,by go_num,by rw[HE.out];rfl,by trivial⟩
    case rest =>
     obtain⟨i,hi,rfl,ht,rfl⟩:=hcut
     have hnm:=HNA.out i hi ht
     have his:i+1<=s.size:=by omega
     have j1:(0:Int)<=(i:Int)+1:=by omega
     have j2:(i:Int)+1<=(s.size:Int):=by omega
     have j3:(1:Int)<=(i:Int)+1:=by omega
     have j4:(32:Int)<=(s.size:Int):=by omega
     have hfl:=fun W=>zhQ (k:Int) ⟨by omega,by omega⟩ (s.extract 1 (i+1)) (s.extract 32 s.size) W HZR.out
     obtain⟨x,st,hxs⟩:∃ x st,rrX (k:Int) (s.extract 1 (i+1)) (Ds.bl (s.extract 32 s.size),0)=(x,st):=⟨_,_,rfl⟩
     have hxn:=zmW (k:Int) ⟨by omega,by omega⟩ (s.extract 1 (i+1)) (Ds.bl (s.extract 32 s.size),0)
     rw[hxs] at hfl hxn
     have hsz:x.1.name.size<=60:=by
      rw[show x.1.name=s.extract 1 (i+1) from hxn];simp;omega
     have HTY:Hid (zlq (k:Int) (Ds.bl s)=if Rd.fin st=0∧okX x=true∧zdV x=Ds.bl s then some x else none):=lh (by
      unfold zlq
      rw[<-hnm,<-HRE.out,Ds.mk_bl,hxs])
     have HFL:=lh hfl
     have HSZ:=lh hsz
     clear hnm hfl hxs hxn hsz ht
     unfold zlit at HFL
     go_upto_region 10 with fail
     go_cut [6,7] (fun t6 t7 wx=>∃ (p r:Nat) (al gr:Value) (t:ByteArray),t6=.pointer (some ⟨p,0,none⟩)∧t7=.pointer (some ⟨r,0,none⟩)∧DR wo wx p r x al gr t st)
     case first =>
      go_region_held3 (fun W=>Below wo.heap.size wo W) (first|exact hw0.drew|exact bt (by assumption) hb|exact Below.alloc (by assumption) (by first|(have:=hw0.size;simp;omega)|(have:=(by assumption:Below wo.heap.size wo _).size;simp at this ⊢;omega)) _|exact below_setRow (by assumption) (by first|(have:=hw0.size;simp;omega)|(have q1:=hw0.size;have q2:=hb.size;simp at q2 ⊢;omega)) _|exact Below.alloc HB2.out (by have q1:=HB2.out.size;first|exact q1|(simp;omega)) _|exact Below.alloc (Below.alloc HB2.out HB2.out.size _) (by have q1:=HB2.out.size;simp;omega) _) ((go_at_call 270;(with_reducible refine (HFL.out _).mono ?_);rintro _ w2 ⟨al,gr,t,rfl,hI,hG,htx,hb,ho1,ho2⟩;have hone:=zav x.1 al gr (zaT hI) (zaU hG);have KH:=fun g n (h:Held _ g n)=>h.below hb;(try (have K6:Held w2 wc.heap.size 33:=KH _ 33 (zeu _ _);have K6a:=fun o=>zca w2 o _ _ K6));(try (have K6:Held w2 wc.heap.size 33:=KH _ 33 (zh1 _ _ _)));(try (have K6:Held w2 (wc.heap.size+1) 33:=KH _ 33 (zhP _ _ _)));(try (have K7:Held w2 wc.heap.size 2:=KH _ 2 (zhw _ _);have K7a:=fun o=>zca w2 o _ _ K7));(try (have K7:Held w2 wc.heap.size 2:=KH _ 2 (zix _ _ _)));(try (have K7:Held w2 (wc.heap.size+1) 2:=KH _ 2 (ziM _ _ _)));clear KH;have HB2:=lh (bt (by assumption:Below wo.heap.size wo _) hb);have HI:=lh hI;have HG:=lh hG;have HTX:=lh htx;have HO1:=lh ho1;have HO2:=lh ho2;have HL1:=lh (zti hI);have HL2:=lh (ztN hG);clear hI hG htx ho1 ho2))
      all_goals
       go_wp2_with fail
       go_meet
       have q1:=hw0.size
       have q2:=HB2.out.size
       have hh:=(by assumption:Below wo.heap.size wo _)
       refine⟨_,_,al,gr,t,rfl,rfl,hh,?_,?_,?_,?_,?_,?_,?_,?_,HTX.out⟩
       · omega
       · first|simp (maxDischargeDepth:=10) only [zc3,zc1,zeK,zeJ,zai,zaf,zeu,zh1,zhP,zhw,zix,ziM,zjN,zj7,zcQ,zcT,zc2,K6,K6a]|simp (maxDischargeDepth:=10) only [zc3,zc1,zeK,zeJ,zai,zaf,zeu,zh1,zhP,zhw,zix,ziM,zjN,zj7,zcQ,zcT,zc2,K7,K7a]|simp (maxDischargeDepth:=10) only [zc3,zc1,zeK,zeJ,zai,zaf,zeu,zh1,zhP,zhw,zix,ziM,zjN,zj7,zcQ,zcT,zc2,K6,K7]|simp (maxDischargeDepth:=10) only [zc3,zc1,zeK,zeJ,zai,zaf,zeu,zh1,zhP,zhw,zix,ziM,zjN,zj7,zcQ,zcT,zc2]
       · first|simp (maxDischargeDepth:=10) only [zc3,zc1,zeK,zeJ,zai,zaf,zeu,zh1,zhP,zhw,zix,ziM,zjN,zj7,zcQ,zcT,zc2,K6,K6a]|simp (maxDischargeDepth:=10) only [zc3,zc1,zeK,zeJ,zai,zaf,zeu,zh1,zhP,zhw,zix,ziM,zjN,zj7,zcQ,zcT,zc2,K7,K7a]|simp (maxDischargeDepth:=10) only [zc3,zc1,zeK,zeJ,zai,zaf,zeu,zh1,zhP,zhw,zix,ziM,zjN,zj7,zcQ,zcT,zc2,K6,K7]|simp (maxDischargeDepth:=10) only [zc3,zc1,zeK,zeJ,zai,zaf,zeu,zh1,zhP,zhw,zix,ziM,zjN,zj7,zcQ,zcT,zc2]
       · first|simp (maxDischargeDepth:=10) only [zc3,zc1,zeK,zeJ,zai,zaf,zeu,zh1,zhP,zhw,zix,ziM,zjN,zj7,zcQ,zcT,zc2,K6,K6a]|simp (maxDischargeDepth:=10) only [zc3,zc1,zeK,zeJ,zai,zaf,zeu,zh1,zhP,zhw,zix,ziM,zjN,zj7,zcQ,zcT,zc2,K7,K7a]|simp (maxDischargeDepth:=10) only [zc3,zc1,zeK,zeJ,zai,zaf,zeu,zh1,zhP,zhw,zix,ziM,zjN,zj7,zcQ,zcT,zc2,K6,K7]|simp (maxDischargeDepth:=10) only [zc3,zc1,zeK,zeJ,zai,zaf,zeu,zh1,zhP,zhw,zix,ziM,zjN,zj7,zcQ,zcT,zc2]
       · (repeat (first|exact HI.out|refine zoS ?_ ?_|refine IS.below ?_ ((Below.refl _ _).alloc (Nat.le_refl _) _)))
         all_goals (intro y h1 h2 e;have a1:=HO1.out y h1;have a2:=HL1.out y h1 h2;simp at a1 e;omega)
       · (repeat (first|exact HG.out|refine znY ?_ ?_|refine GS.below ?_ ((Below.refl _ _).alloc (Nat.le_refl _) _)))
         all_goals (intro y h1 h2 e;have a1:=HO2.out y h1;have a2:=HL2.out y h1 h2;simp at a1 e;omega)
       · intro y h1;have a1:=HO1.out y h1;simp at a1;omega
       · intro y h1;have a1:=HO2.out y h1;simp at a1;omega
     case rest =>
      obtain⟨p,r,al,gr,t,rfl,rfl,hD⟩:=hcut
      have hone:=zav x.1 al gr (zaT hD.is) (zaU hD.gs)
      obtain⟨code,hcode⟩:∃ code:Int,code=if okX x=true then 0 else 1:=⟨_,rfl⟩
      have hway:=zl8 x st s code hcode
      have hen:=fun W (b:Below _ _ W)=>zrt x al gr code hcode W HSZ.out (hD.is.below b) (hD.gs.below b)
      have hed:=fun W=>zsi t st.2 W
      rw[show (Ds.bl t,st.2)=st by rw[hD.tx]] at hed
      have R1:=hD.rp
      have R2:=hD.rr
      have K1:=HH1.out.below hD.bel
      have HD:=lh hD
      have HEN:=lh hen
      have HED:=lh hed
      clear hcode hen hed hD HFL HSZ HBI HNA
      rcases hway with ⟨f1,hh⟩|⟨f1,f2,hh⟩|⟨f1,f2,f3,hh⟩|⟨f1,f2,f3,hh⟩
      all_goals
       go_wp2_with (first
        | (go_at_call 149;(with_reducible refine (HEN.out _ (Below.refl _ _)).mono ?_);rintro _ w4 ⟨rfl,hb⟩;have R3:=zae hb R1 (by rw[zab];decide);have R4:=zae hb R2 (Nat.zero_lt_succ 1);have K4:=K1.below hb;have B4:=lh (bt HD.out.bel hb);have B34:=lh hb;clear hb)
        | (go_at_call 207;(with_reducible refine (HED.out _).mono ?_);rintro _ w5 ⟨rfl,hb⟩;have R5:=zae hb R3 (by rw[zab];decide);have K5:=K4.below hb;have B5:=lh (bt B4.out hb);have B35:=lh (bt B34.out hb);clear hb))
       first
       | (go_roundw
          case rel=>exact⟨k+1,by omega,by go_num,HTr.out.next (fun _=>HTY.out.trans (if_neg hh.out)),K5,bt HB.out B5.out⟩
          case measure=>simp [intOf];omega)
       | (refine bodyPost_ret (zaK (n:=32) rfl Tryz.underlying32 rfl (by kernel_rfl) _ _ w.heap.size rfl ?_) rfl ?_
          · rw[zad K5];exact zab _ _ _
          · rw[zad K5]
            refine⟨x,al,gr,0,rfl,zoS (HD.out.is.below B35.out) (fun y h1 _=>by have:=HD.out.ao y h1;omega),znY (HD.out.gs.below B35.out) (fun y h1 _=>by have:=HD.out.go y h1;omega),below_setRow (bt HB.out B5.out) (Nat.le_refl _) _,Or.inl ⟨zqr _ _ x HLN.out ⟨by omega,by omega⟩ (HC.out.trans HC0.out.symm) (HTY.out.trans (if_pos hh.out)),rfl⟩,fun q hq=>by have:=HD.out.ao q hq;omega,fun q hq=>by have:=HD.out.go q hq;omega⟩)
  · obtain rfl:k=5:=by omega
    have K1:=HH1.out
    go_wp2_with fail
    refine bodyPost_ret (zaK (n:=32) rfl Tryz.underlying32 rfl (by kernel_rfl) _ _ w.heap.size rfl ?_) rfl ?_
    · rw[zad K1];rfl
    · rw[zad K1]
      have hn:zc6 (Ds.bl s)=none:=TrR.all (by rw[HC0.out];exact HTr.out) HLN.out
      have e:=HZZ.out
      unfold zlit at e
      rw[e]
      exact⟨(En.zero,[],[]),.slice none 0 0,.slice none 0 0,11,rfl,IS.nil _,GS.nil _,below_setRow HB.out (Nat.le_refl _) _,Or.inr ⟨hn,rfl,rfl⟩,(fun _ h=>by cases h),(fun _ h=>by cases h)⟩
theorem zmA(s:ByteArray)(w:World):Calls Tryz.prog 205 #[.string s] w fun r w'=>zot w w' (Ds.bl s) r:=by
 by_cases h:s.size<32∨200<s.size
 · exact zjL s w h
 · exact zk3 s w (by omega) (by omega)
end
end Go.Proofs.YtkafnmbldpofdaaGreatDoor
