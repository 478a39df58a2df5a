/- Catalogs. -/
import Derived.Test.YtefcmdmfgdcpmaaGreatDoorRm
import Derived.StillTailTactics
import Derived.Test.YtefcmdmfgdcpmaaGreatDoorMx
set_option maxRecDepth 8000
set_option maxHeartbeats 16000000
namespace Go.Proofs.YtefcmdmfgdcpmaaGreatDoor
theorem znn(id:Int)(c:UInt8)(l:List Rw):(srt id c l).length<=l.length:=by
 have:=zno id c l l.length;rwa [List.take_of_length_le (Nat.le_refl _)] at this
section
open Go.RowKit
structure KW (w w1 wr:World) (ov:Value):Prop where
 b:Below w.heap.size w wr
 s:w1.heap.size<=wr.heap.size
 k:∀ b,w.heap.size<b->b<w1.heap.size->wr.heap[b]?=w1.heap[b]?
 o:∀ b,ov.ownBlock=some b->b=w.heap.size∨w1.heap.size<=b
 z:w.heap.size<=w1.heap.size
theorem KW.below{w w1 wr w':World}{ov:Value}(h:KW w w1 wr ov)(hb:Below wr.heap.size wr w'):KW w w1 w' ov :=
 ⟨bt h.b hb,Nat.le_trans h.s hb.size,fun b h1 h2=>(hb.block b (Nat.lt_of_lt_of_le h2 h.s)).trans (h.k b h1 h2),h.o,h.z⟩
theorem KW.grown{w w1 wr w':World}{ov ov':Value}(h:KW w w1 wr ov)(hg:wr.grownBy w' ov.ownBlock)(ho:ov'.ownBlock=ov.ownBlock∨ov'.ownBlock=some wr.heap.size):KW w w1 w' ov':=by
 have hs:=h.s;have hz:=h.z;refine⟨h.b.trans (za2 hg (fun q hq=>?_) (by omega)),Nat.le_trans hs hg.size,fun b h1 h2=>(hg.block b (by omega) (fun e=>?_)).trans (h.k b h1 h2),fun b hb=>?_,h.z⟩
 · rcases h.o q hq with h|h <;> omega
 · rcases h.o b e.symm with h|h <;> omega
 · rcases ho with ho|ho
   · exact h.o b (ho ▸ hb)
   · rw[ho] at hb;cases hb;exact .inr hs
theorem KW.rws{w w1 wr:World}{ov sv:Value}{S:List Rw}(h:KW w w1 wr ov)(hS:RwS w1 sv S)(hv:∀ q,sv.ownBlock=some q->w.heap.size<q):RwS wr sv S :=
 hS.keep h.s (fun b hb hl=>h.k b (hv b hb) hl)
attribute [local go_sem ↓] zaV zaz za1
attribute [local go_sem ↓ high] zaW
attribute [local go_sem] zav zap zal zaI zaJ zae zaq zai zaw zao zas zan zaa zaj zaf zaA zax zak zag zar zaG zaC zaE
end
section
open Go.RowKit
set_option linter.unusedSimpArgs false
attribute [local go_sem ↓] zaV zaW zaz zcu
attribute [local go_sem] zav zap zal zaI zaJ zae zaq zai zaw zao zas zan zaa zaj zaf zaA zax zak zag zar
end
section
open Go.RowKit
set_option linter.unusedSimpArgs false
def ofF(l:List Rw)(kind:Int)(name:ByteArray):Int × Int :=
 if kind<0∨4<kind∨kind=3 then (0,1) else if kind=4 then (1,0) else zaN l name
def hnP(id:Int)(p:ByteArray)(x:Rw):Bool:=decide (x.1=id)&&((decide ((Ds.bl x.2.1).headD 0=68) || decide ((Ds.bl x.2.1).headD 0=71) || decide ((Ds.bl x.2.1).headD 0=65))&&Ds.match_ (Ds.bl (p++⟨#[46,42,42]⟩)) (Ds.bl (zaZ x.2.1)))
def hnF(l:List Rw)(id:Int)(p:ByteArray):Bool:=l.any (hnP id p)
end
section
open Go.RowKit
set_option linter.unusedSimpArgs false
attribute [local go_sem ↓] zaV zaW zaz za1 zi8
attribute [local go_sem] zav zap zal zaI zaJ zae zaq zai zaw zao zas zan zaa zaj zaf zaA zax zak zag zar zaG zaC zaE
def zpN(l:List Rw)(x:Fu):List Ch × Int:=if okX x=true then (if (ofF l x.1.kind x.1.name).2≠0 then ([],(ofF l x.1.kind x.1.name).2) else zpC l (ofF l x.1.kind x.1.name).1 x) else ([],1)
end
section
open Go.RowKit
set_option linter.unusedSimpArgs false
def ztu(g:ByteArray):List Rw->List Int->List Int
 | [],out=>out
 | x::xs,out=>ztu g xs (if (Ds.gen (Ds.bl (zaZ x.2.1))=true∧zeV (zaZ x.2.1)=g)∧x.2.1=zaT 0 (zaZ x.2.1) then out++[((Ds.splN (Ds.bl (zaZ x.2.1)):Nat):Int)] else out)
def ztt(l:List Rw)(id:Int)(g:ByteArray):List Int:=ztu g (srt id 68 l) []
theorem znl{id:Int}{c:UInt8}{l:List Rw}{x:Rw}(h:x∈srt id c l):x∈l∧inL id c x=true:=by
 have:=(zc4 id c l l.length x).1 (by rw[List.take_length];exact h);rw[List.take_length] at this;exact this
end
section
open Go.RowKit
set_option linter.unusedSimpArgs false
def zji(name:ByteArray):List Rw->List Fu->List Fu × Int
 | [],out=>(out,0)
 | x::xs,out=>if (zaS x.2.1 x.2.2).2≠0 then ([],(zaS x.2.1 x.2.2).2) else if (zaS x.2.1 x.2.2).1.1.target=name then zji name xs (out++[(zaS x.2.1 x.2.2).1]) else zji name xs out
def zeW(l:List Rw)(id:Int)(name:ByteArray):List Fu × Int:=zji name (srt id 65 l) []
attribute [local go_sem ↓] zaV zaz za1
attribute [local go_sem ↓ high] zaW
attribute [local go_sem] zav zap zal zaI zaJ zae zaq zai zaw zao zas zan zaa zaj zaf zaA zax zak zag zar zaG zaC zaE
end
def zfZ{σ ρ:Type}(step:σ->ByteArray->ByteArray->Except ρ σ):List Rw->σ->Except ρ σ
 | [],s=>.ok s
 | x::r,s=>match step s x.2.1 x.2.2 with
   | .ok s'=>zfZ step r s'
   | .error e=>.error e
def rowX{σ ρ:Type}:Except ρ σ->Except ρ (σ × Int)
 | .ok s=>.ok (s,0)
 | .error e=>.error e
theorem zg6{σ ρ:Type}{step:σ->ByteArray->ByteArray->Except ρ σ}(l:List Rw)(id fl cd:Int)(L:UInt8)(hfl:fl<=0)(hd:DstL l):∀ (f:Nat) (ca:Int) (k:List UInt8) (s:σ),0<=ca->cnt id k l<f->k≠[] ->
  (zbt l id fl cd L step f ca k s).1=rowX (zfZ step (aft k (srt id L l)) s)
 | 0,_,_,_,_,h,_=>by omega
 | f+1,ca,k,s,hca,hc,hk0=>by
   have hsm:∀ x,x∈srt id L l↔x∈l∧inL id L x=true:=fun x=>by
    have:=zc4 id L l l.length x;rwa [List.take_of_length_le (Nat.le_refl _)] at this
   have hss:zla (srt id L l):=by
    have:=zfH id L l hd l.length;rwa [List.take_of_length_le (Nat.le_refl _)] at this
   have hin:∀ x,inL id L x=true↔x.1=id∧(kyR x).head?=some L:=fun x=>by unfold inL;simp
   have hmin:=zqa id k _ l rfl;rw[zbt,if_neg (by omega)]
   cases hn:nx id k l with
   | none =>
     rw[hn] at hmin;simp only at hmin ⊢
     have e:aft k (srt id L l)=[]:=by
      unfold aft;rw[List.filter_eq_nil_iff];intro y hy;have h1:=(hsm y).1 hy;rw[hmin y h1.1 ((hin y).1 h1.2).1];simp
     rw[e];rfl
   | some x =>
     obtain⟨hx1,hx2,hx3⟩:=zdI hn;rw[hn] at hmin;simp only at hmin ⊢
     have hne:kyR x≠[]:=by intro e;rw[show Ds.bl x.2.1=[] from e,zeA] at hx3;cases hx3
     have hhd:(kyR x).head?=some ((kyR x).headD 0):=zl6 hx3
     have hmem:∀ y∈srt id L l,ltB k (kyR y)=true->y=x∨ltB (kyR x) (kyR y)=true:=by
      intro y hy hky;have h1:=(hsm y).1 hy;have hid:=((hin y).1 h1.2).1;have h2:=hmin y h1.1 hid hky;by_cases c:kyR y=kyR x
      · exact .inl (hd.inj h1.1 hx1 (hid.trans hx2.symm) c)
      · exact .inr (zmB h2 c)
     by_cases h80:L<(Ds.bl x.2.1).headD 0
     · rw[if_pos h80]
       have e:aft k (srt id L l)=[]:=by
        unfold aft;rw[List.filter_eq_nil_iff];intro y hy hky;have h1:=((hin y).1 ((hsm y).1 hy).2).2;rcases hmem y hy hky with rfl|h2
        · rw[hhd] at h1;have:(kyR y).headD 0=L:=by simpa using h1
          rw[show Ds.bl y.2.1=kyR y from rfl,this] at h80;exact absurd h80 (UInt8.lt_irrefl _)
        · have h3:=zvF h2 hne;rw[zl6 hky] at h1;have h4:(kyR y).headD 0=L:=by simpa using h1
          rw[h4] at h3;exact absurd h80 (by simpa using h3)
       rw[e];rfl
     · rw[if_neg h80];have hcl:cnt id (kyR x) l<cnt id k l:=zjt hn;by_cases h81:(Ds.bl x.2.1).headD 0<L
       · rw[if_pos h81]
         have e:aft k (srt id L l)=aft (kyR x) (srt id L l):=by
          unfold aft;refine List.filter_congr fun y hy=>?_
          have h1:=((hin y).1 ((hsm y).1 hy).2).2;by_cases c:ltB k (kyR y)=true
          · rw[c];rcases hmem y hy c with rfl|h2
            · rw[hhd] at h1;have:(kyR y).headD 0=L:=by simpa using h1
              rw[show Ds.bl y.2.1=kyR y from rfl,this] at h81;exact absurd h81 (UInt8.lt_irrefl _)
            · exact h2.symm
          · have c':ltB k (kyR y)=false:=by simpa using c
            rw[c'];by_cases c2:ltB (kyR x) (kyR y)=true
            · rw[zcv hx3 c2] at c';cases c'
            · exact (by simpa using c2:ltB (kyR x) (kyR y)=false).symm
         rw[e];exact zg6 l id fl cd L hfl hd f (ca+1) (kyR x) s (by omega) (by omega) hne
       · rw[if_neg h81]
         have hx80:(kyR x).headD 0=L:=by
          have h1:¬ L<(kyR x).headD 0:=h80;have h2:¬ (kyR x).headD 0<L:=h81;exact UInt8.le_antisymm (UInt8.not_lt.1 h1) (UInt8.not_lt.1 h2)
         have hxs:x∈srt id L l:=(hsm x).2 ⟨hx1,(hin x).2 ⟨hx2,by rw[hhd,hx80]⟩⟩
         have e:=zjh hss hxs hx3 fun y hy hky=>by
          rcases hmem y hy hky with rfl|h2
          · exact zdh _
          · exact zfs h2
         rw[e,zfZ]
         cases hst:step s x.2.1 x.2.2 with
         | error e=>rfl
         | ok s'=>exact zg6 l id fl cd L hfl hd f (ca+1) (kyR x) s' (by omega) (by omega) hne
theorem znP(id:Int)(l:List Rw)(L:UInt8)(hL:L - 1<L):aft [L - 1,255] (srt id L l)=srt id L l:=by
 unfold aft;rw[List.filter_eq_self];intro y hy;have h:=(zc4 id L l l.length y).1 (by rw[List.take_of_length_le (Nat.le_refl _)];exact hy);have h2:=h.2;unfold inL at h2;simp only[Bool.and_eq_true,decide_eq_true_eq] at h2
 cases hk:kyR y with
 | nil=>rw[hk] at h2;simp at h2
 | cons a r =>
   rw[hk] at h2;have:a=L:=by simpa using h2.2
   subst this;exact decide_eq_true (by rw[Lib.compareBytes,if_pos hL];decide)
theorem zdu{σ ρ:Type}{step:σ->ByteArray->ByteArray->Except ρ σ}(l:List Rw)(id fl cd ca:Int)(L:UInt8)(hL:L - 1<L)(hfl:fl<=0)(hd:DstL l)(h0:0<=ca)(s:σ) :
  (zbt l id fl cd L step (l.length+1) ca [L - 1,255] s).1=rowX (zfZ step (srt id L l) s):=by
 rw[zg6 l id fl cd L hfl hd (l.length+1) ca [L - 1,255] s h0 (by have:=cnt_le id [L - 1,255] l;omega) (by simp),znP id l L hL]
/-! aliases -/
theorem zgo(name:ByteArray):∀ (S:List Rw) (out:List Fu),zji name S out=match zfZ (zhi name) S out with
  | .ok s=>(s,0)
  | .error e=>([],e)
 | [],out=>rfl
 | x::S,out=>by
   rw[zji,zfZ];unfold zhi;by_cases h1:(zaS x.2.1 x.2.2).2≠0
   · rw[if_pos h1,if_pos h1]
   · rw[if_neg h1,if_neg h1];by_cases h2:(zaS x.2.1 x.2.2).1.1.target=name
     · rw[if_pos h2,if_pos h2];exact zgo name S _
     · rw[if_neg h2,if_neg h2];exact zgo name S _
theorem zld(l:List Rw)(fl cd ca id:Int)(name:ByteArray)(hf:fl<=0)(h0:0<=ca)(hd:DstL l):(zfR l fl cd ca id name).1=zeW l id name:=by
 have h:=zdu (step:=zhi name) l id fl cd ca 65 (by decide) hf hd h0 [];unfold zfR zeW;rw[zgo]
 cases hr:zbt l id fl cd 65 (zhi name) (l.length+1) ca [(65:UInt8) - 1,255] [] with
 | mk a c =>
   rw[hr] at h;dsimp only at h;subst h
   cases zfZ (zhi name) (srt id 65 l) [] with
   | ok s=>rfl
   | error e=>rfl
/-! generations -/
theorem zgT(g:ByteArray):∀ (S:List Rw) (out:List Int),zfZ (zjK g) S out=.ok (ztu g S out)
 | [],out=>rfl
 | x::S,out=>by
   rw[ztu,zfZ];unfold zjK;by_cases h:(Ds.gen (Ds.bl (zaZ x.2.1))=true∧zeV (zaZ x.2.1)=g)∧x.2.1=zaT 0 (zaZ x.2.1)
   · rw[if_pos h,if_pos h];exact zgT g S _
   · rw[if_neg h,if_neg h];exact zgT g S _
theorem zrF(l:List Rw)(fl cd ca id:Int)(g:ByteArray)(hf:fl<=0)(h0:0<=ca)(hd:DstL l):(ziL l fl cd ca id g).1=(ztt l id g,0):=by
 have h:=zdu (step:=zjK g) l id fl cd ca 68 (by decide) hf hd h0 [];rw[zgT] at h;unfold ziL ztt
 cases hr:zbt l id fl cd 68 (zjK g) (l.length+1) ca [(68:UInt8) - 1,255] [] with
 | mk a c =>
   rw[hr] at h;dsimp only at h;subst h;rfl
/-! names below a prefix -/
theorem znw(p:ByteArray):∀ (S:List Rw) (s:Bool),zfZ (unS p) S s=.ok (s || S.any (fun x=>unN p (zaZ x.2.1)))
 | [],s=>by rw[zfZ,List.any_nil,Bool.or_false]
 | x::S,s=>by
   rw[zfZ];unfold unS;dsimp only;rw[List.any_cons,<-Bool.or_assoc];exact znw p S _
theorem zja(l:List Rw)(fl cd id ca:Int)(p:ByteArray)(L:UInt8)(hL:L - 1<L)(hf:fl<=0)(h0:0<=ca)(hd:DstL l):(zhj l fl cd id p L ca).1=((srt id L l).any (fun x=>unN p (zaZ x.2.1)),0):=by
 have h:=zdu (step:=unS p) l id fl cd ca L hL hf hd h0 false;rw[znw,Bool.false_or] at h;unfold zhj
 cases hr:zbt l id fl cd L (unS p) (l.length+1) ca [L - 1,255] false with
 | mk a c =>
   rw[hr] at h;dsimp only at h;subst h;rfl
theorem zny(l:List Rw)(fl cd id ca:Int)(p:ByteArray)(L:UInt8)(h0:0<=ca):0<=(zhj l fl cd id p L ca).2:=by
 have h:=zc2 (step:=unS p) (l:=l) (id:=id) (fl:=fl) (cd:=cd) (L:=L) (l.length+1) ca [L - 1,255] false;unfold zhj
 cases hr:zbt l id fl cd L (unS p) (l.length+1) ca [L - 1,255] false with
 | mk a c =>
   rw[hr] at h
   cases a with
   | error e=>unfold unR;dsimp only at h ⊢;omega
   | ok q=>unfold unR;dsimp only at h ⊢;omega
theorem zi7(id:Int)(L:UInt8)(l:List Rw)(f:Rw->Bool):(srt id L l).any f=l.any (fun x=>inL id L x&&f x):=by
 rw[Bool.eq_iff_iff,List.any_eq_true,List.any_eq_true]
 have hsm:∀ x,x∈srt id L l↔x∈l∧inL id L x=true:=fun x=>by
  have:=zc4 id L l l.length x;rwa [List.take_of_length_le (Nat.le_refl _)] at this
 constructor
 · rintro ⟨x,hx,h⟩;exact⟨x,((hsm x).1 hx).1,by rw[((hsm x).1 hx).2,h];rfl⟩
 · rintro ⟨x,hx,h⟩;rw[Bool.and_eq_true] at h;exact⟨x,(hsm x).2 ⟨hx,h.1⟩,h.2⟩
theorem jn1(a:List UInt8):Lib.join [a] [46]=a:=by simp [Lib.join,List.intercalate]
theorem zpo(p n:ByteArray)(hp:zeC p=true):Ds.match_ (Ds.bl (p++⟨#[46,42,42]⟩)) (Ds.bl n)=unN p n:=by
 have e1:Ds.bl (p++⟨#[46,42,42]⟩)=Ds.bl p++[46,42,42]:=by unfold Ds.bl;simp
 rw[e1];unfold zeC at hp;rw[Bool.and_eq_true,decide_eq_true_eq] at hp;obtain⟨hn,h2⟩:=hp;have hpn:=(Ds.name_parts _).1 hn
 have hlen:(Ds.bl p).length<=28:=by
  have hc:(Ds.bl p).count 46<2:=by unfold Lib.countByte at h2;unfold Ds.bl;omega
  have hpl:=Ds.pieces_len (Ds.bl p);have hj:=Ds.join_pieces (Ds.bl p);rw[<-hj];have q8:∀ q∈Ds.pieces (Ds.bl p),q.length<=8:=fun q hq=>Ds.qual_le _ _ _ (hpn.2 q hq)
  generalize Ds.pieces (Ds.bl p)=P at hpl q8;rcases P with _|⟨a,_|⟨b,_|⟨c,r⟩⟩⟩
  · simp [Lib.join]
  · have:=q8 a (by simp);rw[jn1];omega
  · have h1:=q8 a (by simp);have h3:=q8 b (by simp);rw[Ds.join_cons2];rw[jn1];simp only[List.length_append,List.length_singleton];omega
  · simp only[List.length_cons] at hpl;omega
 unfold unN;cases hs:Ds.name (Ds.bl n)
 · rw[Bool.false_and];rw[Bool.eq_false_iff];intro h;have:=((Ds.match_parts _ _).1 h).2.1;rw[hs] at this;cases this
 rw[Bool.true_and,Ds.match_below _ _ (Ds.name_pat _ hn) hlen hs,Bool.eq_iff_iff,List.any_eq_true,Bool.or_eq_true,decide_eq_true_eq];have hsn:=(Ds.name_parts _).1 hs;have hjn:=Ds.join_pieces (Ds.bl n);constructor
 · rintro ⟨k,hk,h⟩;rw[List.mem_range] at hk;obtain⟨f1,f2⟩:=Ds.first_take (Ds.bl n) (k+1) hs (by omega);have en:((k:Int)+1)=((k+1:Nat):Int):=by omega
   rw[en,Ds.match_self _ _ hn f1,decide_eq_true_eq] at h;rw[<-h] at f2;by_cases hq:k+1=(Ds.pieces (Ds.bl n)).length
   · refine .inl (Ds.bl_inj ?_)
     rw[hq,Ds.first_all _ hs] at h;exact h.symm
   · refine .inr ?_
     have e3:Ds.bl n=Ds.bl p++46::Lib.join ((Ds.pieces (Ds.bl n)).drop (k+1)) [46]:=by
      conv=>lhs;rw[<-hjn,<-List.take_append_drop (k+1) (Ds.pieces (Ds.bl n)),<-f2]
      have hne:(Ds.pieces (Ds.bl n)).drop (k+1)≠[]:=by
       intro e;rw[List.drop_eq_nil_iff] at e;omega
      have hjj:∀ (A B:List (List UInt8)),A≠[]->B≠[]->Lib.join (A++B) [46]=Lib.join A [46]++46::Lib.join B [46]:=by
       intro A B hA hB
       induction A with
       | nil=>exact absurd rfl hA
       | cons a A ih =>
         cases A with
         | nil =>
           cases B with
           | nil=>exact absurd rfl hB
           | cons b B=>rw[List.singleton_append,Ds.join_cons2,jn1];simp
         | cons a2 A =>
           rw[List.cons_append,List.cons_append,Ds.join_cons2,<-List.cons_append,ih (by simp),Ds.join_cons2];simp
      rw[hjj _ _ (Ds.pieces_ne _) hne,Ds.join_pieces]
     show Lib.hasPrefix (Ds.bl n) (Ds.bl p++[46])=true
     rw[e3];unfold Lib.hasPrefix;rw[List.isPrefixOf_iff_prefix];exact⟨Lib.join ((Ds.pieces (Ds.bl n)).drop (k+1)) [46],by simp⟩
 · rintro (h|h)
   · subst h;have h0:0<(Ds.pieces (Ds.bl n)).length:=List.length_pos_iff.2 (Ds.pieces_ne _);refine⟨(Ds.pieces (Ds.bl n)).length - 1,by simp;omega,?_⟩
     rw[show (((Ds.pieces (Ds.bl n)).length - 1:Nat):Int)+1=((Ds.pieces (Ds.bl n)).length:Int) by omega,Ds.first_all _ hs,Ds.match_self _ _ hs hs];simp
   · have h':Lib.hasPrefix (Ds.bl n) (Ds.bl p++[46])=true:=h;unfold Lib.hasPrefix at h';rw[List.isPrefixOf_iff_prefix] at h';obtain⟨t,ht⟩:=h';have e3:Ds.bl n=Ds.bl p++46::t:=by rw[<-ht];simp
     have e4:Ds.pieces (Ds.bl n)=Ds.pieces (Ds.bl p)++Ds.pieces t:=by rw[e3,Ds.pieces_dot]
     have h0:0<(Ds.pieces (Ds.bl p)).length:=List.length_pos_iff.2 (Ds.pieces_ne _);refine⟨(Ds.pieces (Ds.bl p)).length - 1,?_,?_⟩
     · rw[List.mem_range,e4,List.length_append];omega
     · obtain⟨f1,f2⟩:=Ds.first_take (Ds.bl n) (Ds.pieces (Ds.bl p)).length hs h0;rw[show (((Ds.pieces (Ds.bl p)).length - 1:Nat):Int)+1=((Ds.pieces (Ds.bl p)).length:Int) by omega,Ds.match_self _ _ hn f1,decide_eq_true_eq];rw[e4,List.take_left' rfl] at f2;have hj:=Ds.join_pieces (Ds.first ((Ds.pieces (Ds.bl p)).length:Int) (Ds.bl n));rw[f2,Ds.join_pieces] at hj;exact hj
theorem znx(l:List Rw)(fl cd ca id:Int)(p:ByteArray)(hf:fl<=0)(h0:0<=ca)(hd:DstL l)(hp:zeC p=true):(zii l fl cd ca id p).1=if hnF l id p=true then 9 else 0:=by
 have q1:=zja l fl cd id ca p 68 (by decide) hf h0 hd;have c1:=zny l fl cd id ca p 68 h0;have q2:=zja l fl cd id _ p 71 (by decide) hf c1 hd;have c2:=zny l fl cd id _ p 71 c1;have q3:=zja l fl cd id _ p 65 (by decide) hf c2 hd;unfold zii;rw[zqG,zqG,zqG,zqG,q1,q2,q3];dsimp only;rw[zi7,zi7,zi7]
 have hh:hnF l id p=(l.any (fun x=>inL id 68 x&&unN p (zaZ x.2.1)) || (l.any (fun x=>inL id 71 x&&unN p (zaZ x.2.1)) || l.any (fun x=>inL id 65 x&&unN p (zaZ x.2.1)))):=by
  unfold hnF;rw[Bool.eq_iff_iff,Bool.or_eq_true,Bool.or_eq_true,List.any_eq_true,List.any_eq_true,List.any_eq_true,List.any_eq_true]
  have hx:∀ x:Rw,hnP id p x=((inL id 68 x&&unN p (zaZ x.2.1)) || ((inL id 71 x&&unN p (zaZ x.2.1)) || (inL id 65 x&&unN p (zaZ x.2.1)))):=fun x=>by
   unfold hnP inL kyR;rw[zpo p _ hp]
   have hh:∀ c:UInt8,c≠0->decide ((Ds.bl x.2.1).headD 0=c)=decide ((Ds.bl x.2.1).head?=some c):=fun c hc=>by
    cases Ds.bl x.2.1 with
    | nil=>simp [Ne.symm hc]
    | cons a r=>simp
   rw[hh 68 (by decide),hh 71 (by decide),hh 65 (by decide)];cases decide (x.1=id) <;> cases decide ((Ds.bl x.2.1).head?=some 68) <;> cases decide ((Ds.bl x.2.1).head?=some 71) <;> cases decide ((Ds.bl x.2.1).head?=some 65) <;> cases unN p (zaZ x.2.1) <;> rfl
  constructor
  · rintro ⟨x,h1,h2⟩;rw[hx x,Bool.or_eq_true,Bool.or_eq_true] at h2;rcases h2 with h|h|h
    · exact .inl ⟨x,h1,h⟩
    · exact .inr (.inl ⟨x,h1,h⟩)
    · exact .inr (.inr ⟨x,h1,h⟩)
  · rintro (⟨x,h1,h⟩|⟨x,h1,h⟩|⟨x,h1,h⟩)
    · exact⟨x,h1,by rw[hx x,h];simp⟩
    · exact⟨x,h1,by rw[hx x,h];simp⟩
    · exact⟨x,h1,by rw[hx x,h];simp⟩
 rw[hh];cases l.any (fun x=>inL id 68 x&&unN p (zaZ x.2.1)) <;> cases l.any (fun x=>inL id 71 x&&unN p (zaZ x.2.1)) <;> cases l.any (fun x=>inL id 65 x&&unN p (zaZ x.2.1)) <;> rfl
theorem zgG{l:List Rw}{id kind:Int}{name:ByteArray}(h:(zbd l id kind name).2=0):(0<=kind∧kind<=4)∧okX (zbd l id kind name).1=true∧zaT (zbd l id kind name).1.1.kind (zbd l id kind name).1.1.name=zaT kind name:=by
 unfold zbd zbn at h ⊢;by_cases hk:zaT kind name=⟨#[]⟩
 · rw[if_pos hk] at h;exact absurd (show (1:Int)=0 from h) (by decide)
 rw[if_neg hk,if_neg (by decide)] at h ⊢;refine⟨?_,?_⟩
 · by_cases h2:Ek.isKind kind=true
   · unfold Ek.isKind at h2;simpa using h2
   · exfalso
     refine hk ?_
     unfold zaT Ek.key;rw[if_neg (fun q=>h2 q.1)]
 · cases hr:zbS id (zaT kind name) l with
   | none=>rw[hr] at h;exact absurd (show (6:Int)=0 from h) (by decide)
   | some s =>
     rw[hr] at h;dsimp only at h ⊢;obtain⟨h1,h2⟩:=zea (k:=zaT kind name) (r:=s) (fun q=>q h);refine⟨h1,?_⟩
     have e:zaT (zaS (zaT kind name) s).1.1.kind (zaS (zaT kind name) s).1.1.name=⟨(zfr (zaS (zaT kind name) s).1).toArray⟩:=rfl;rw[e,h2,Ds.mk_bl]
theorem zgn(name:ByteArray):∀ (S:List Rw) (out:List Fu),(zji name S out).1.length<=out.length+S.length
 | [],out=>Nat.le_refl _
 | x::S,out=>by
   rw[zji,List.length_cons];split
   · exact Nat.zero_le _
   · split
     · have:=zgn name S (out++[(zaS x.2.1 x.2.2).1]);rw[List.length_append,List.length_singleton] at this;omega
     · have:=zgn name S out;omega
theorem zjk(l:List Rw)(id:Int)(name:ByteArray):(zeW l id name).1.length<=l.length:=by
 have h1:=zgn name (srt id 65 l) [];have h2:=znn id 65 l;unfold zeW;rw[List.length_nil] at h1;omega
def zna(l:List Rw)(id kind:Int)(name:ByteArray):List Ch × Int :=
 if (zbd l id kind name).2≠0 then ([],(zbd l id kind name).2)
 else if kind=1∧ztt l id name≠[] then ([],9)
 else if kind<=1 then (if (zeW l id name).2≠0 then ([],(zeW l id name).2) else ((zeW l id name).1.map (zbf id)++[zbf id (zbd l id kind name).1],0))
 else ([zbf id (zbd l id kind name).1],0)
theorem zsL(l:List Rw)(fl cd ca id kind:Int)(name:ByteArray)(hf:fl<=0)(h0:0<=ca)(hd:DstL l):(zo9 l fl cd ca id kind name).1=zna l id kind name:=by
 have e:=zdg l fl cd ca id kind name hf h0;have c:=(zbJ l fl cd ca id kind name).1;have hk:=@zgG l id kind name;unfold zo9 zna;rw[e];have c1:0<=(zbn l fl cd ca id kind name).2:=by omega
 generalize (zbn l fl cd ca id kind name).2=cb at c1 ⊢;by_cases h1:(zbd l id kind name).2≠0
 · rw[if_pos h1,if_pos h1]
 rw[if_neg h1,if_neg h1];obtain⟨⟨hk0,-⟩,-⟩:=hk (Classical.byContradiction fun q=>h1 q)
 have hT:∀ x c,0<=c->(zsM l fl cd id kind name x c).1=if kind<=1 then (if (zeW l id name).2≠0 then ([],(zeW l id name).2) else ((zeW l id name).1.map (zbf id)++[zbf id x],0)) else ([zbf id x],0):=fun x c hc=>by
  have ea:=zld l fl cd c id name hf hc hd;unfold zsM;rw[ea];by_cases h2:kind<=1
  · rw[if_pos h2,if_pos (by omega)];by_cases h3:(zeW l id name).2≠0
    · rw[if_pos h3,if_pos h3]
    · rw[if_neg h3,if_neg h3]
  · rw[if_neg h2,if_neg (by omega)]
 by_cases k1:kind=1
 · have eg:=zrF l fl cd cb id name hf c1 hd;have cg:=(zl0 l fl cd cb id name).1;rw[if_pos k1,eg,if_neg (fun q=>q rfl)];by_cases hn:ztt l id name≠[]
   · rw[if_pos hn,if_pos ⟨k1,hn⟩]
   · rw[if_neg hn,if_neg (fun q=>hn q.2),hT _ _ (by omega)]
 · rw[if_neg k1,if_neg (fun q=>k1 q.1),hT _ _ c1]
def zk8(l:List Rw)(id:Int)(name tn:ByteArray):List Ch × Int :=
 if Ds.name (Ds.bl tn)=false then ([],1)
 else if (zbd l id 0 name).2≠0 then ([],(zbd l id 0 name).2)
 else if Ds.gen (Ds.bl name)=true∨Ds.gen (Ds.bl tn)=true then ([],7)
 else if zhh (zcJ l id tn).2≠0 then ([],zhh (zcJ l id tn).2)
 else if (zeW l id name).2≠0 then ([],(zeW l id name).2)
 else (zql id (zbd l id 0 name).1 tn (zeW l id name).1,0)
theorem zsN(l:List Rw)(fl cd ca id:Int)(name tn:ByteArray)(hf:fl<=0)(h0:0<=ca)(hd:DstL l):(zk7 l fl cd ca id name tn).1=zk8 l id name tn:=by
 have e:=zdg l fl cd ca id 0 name hf h0;have c:=(zbJ l fl cd ca id 0 name).1;unfold zk7 zk8;rw[e];have c1:0<=(zbn l fl cd ca id 0 name).2:=by omega
 generalize (zbn l fl cd ca id 0 name).2=cb at c1 ⊢;have e2:=zdY l fl cd cb id tn hf c1;have c2:0<=(zbF l fl cd cb id tn).2:=by have:=(zcY l fl cd cb id tn).1;omega
 rw[e2];generalize (zbF l fl cd cb id tn).2=cc at c2 ⊢;have e3:=zld l fl cd cc id name hf c2 hd;rw[e3];by_cases h1:Ds.name (Ds.bl tn)=false
 · rw[if_pos h1,if_pos h1]
 rw[if_neg h1,if_neg h1];by_cases h2:(zbd l id 0 name).2≠0
 · rw[if_pos h2,if_pos h2]
 rw[if_neg h2,if_neg h2];by_cases h3:Ds.gen (Ds.bl name)=true∨Ds.gen (Ds.bl tn)=true
 · rw[if_pos h3,if_pos h3]
 rw[if_neg h3,if_neg h3];by_cases h4:zhh (zcJ l id tn).2≠0
 · rw[if_pos h4,if_pos h4]
 rw[if_neg h4,if_neg h4];by_cases h5:(zeW l id name).2≠0
 · rw[if_pos h5,if_pos h5]
 rw[if_neg h5,if_neg h5]
/-! chapter 36 -/
theorem zjN(l:List Rw)(fl cd ca:Int)(name:ByteArray)(D:Int->Int->(List Ch × Int) × Int)(R:Int->List Ch × Int)(hf:fl<=0)(h0:0<=ca)(hD:∀ id c,0<=c->(D id c).1=R id) :
  (inF l fl cd ca name D).1=if (zaN l name).2≠0 then ([],(zaN l name).2) else R (zaN l name).1:=by
 obtain⟨e,c⟩:=zel l fl cd ca name hf h0;unfold inF;rw[e];by_cases h:(zaN l name).2≠0
 · rw[if_pos h,if_pos h]
 · rw[if_neg h,if_neg h,hD _ _ c]
theorem zma(l:List Rw)(fl cd ca kind:Int)(name:ByteArray)(D:Int->Int->(List Ch × Int) × Int)(R:Int->List Ch × Int)(hf:fl<=0)(h0:0<=ca)(hk:¬ (kind<0∨4<kind∨kind=3))(hD:∀ id c,0<=c->(D id c).1=R id) :
  (zp4 l fl cd ca kind name D).1=if (ofF l kind name).2≠0 then ([],(ofF l kind name).2) else R (ofF l kind name).1:=by
 unfold zp4 ofF;rw[if_neg hk];by_cases h4:kind=4
 · rw[if_pos h4,if_pos h4,if_neg (by decide),hD _ _ h0]
 · rw[if_neg h4,if_neg h4,zjN l fl cd ca name D R hf h0 hD]
theorem zmX{l:List Rw}{kind:Int}{name:ByteArray}(hk:kind<0∨4<kind∨kind=3):ofF l kind name=(0,1):=by unfold ofF;rw[if_pos hk]
theorem zbp{x:Fu}(h:okX x=true):0<=x.1.kind∧x.1.kind<=4:=by
 unfold okX at h;by_cases k0:x.1.kind=0
 · omega
 by_cases k1:x.1.kind=1
 · omega
 by_cases k2:x.1.kind=2
 · omega
 by_cases k3:x.1.kind=3
 · omega
 by_cases k4:x.1.kind=4
 · omega
 rw[if_neg k0,if_neg k1,if_neg k2,if_neg k3,if_neg k4] at h;cases h
theorem zoI(l:List Rw)(fl cd ca:Int)(x:Fu)(hf:fl<=0)(h0:0<=ca):(zkM l fl cd ca x).1=zpN l x:=by
 unfold zkM zpN;by_cases hok:okX x=true
 rotate_left
 · rw[if_neg (fun q=>hok q.1),if_neg hok]
 have hr:=zbp hok;rw[if_pos hok];by_cases hk:x.1.kind=3
 · rw[if_neg (fun q=>q.2 hk),zmX (.inr (.inr hk)),if_pos (by decide)]
 · rw[if_pos ⟨hok,hk⟩];exact zma l fl cd ca _ _ _ (fun id=>zpC l id x) hf h0 (by omega) (fun id c hc=>zqM l fl cd c id x hf hc)
def zhU(l:List Rw)(kind:Int)(name:ByteArray):List Ch × Int :=
 if (ofF l kind name).2≠0 then ([],(ofF l kind name).2) else zna l (ofF l kind name).1 kind name
theorem zoL(l:List Rw)(fl cd ca kind:Int)(name:ByteArray)(hf:fl<=0)(h0:0<=ca)(hd:DstL l):(zkO l fl cd ca kind name).1=zhU l kind name:=by
 unfold zkO zhU;by_cases hk:kind<0∨4<kind∨kind=3
 · rw[if_pos hk,zmX hk,if_pos (by decide)]
 · rw[if_neg hk];exact zma l fl cd ca _ _ _ (fun id=>zna l id kind name) hf h0 hk (fun id c hc=>zsL l fl cd c id kind name hf hc hd)
def zhV(l:List Rw)(name tn:ByteArray):List Ch × Int :=
 if Ds.name (Ds.bl name)=false∨Ds.name (Ds.bl tn)=false then ([],1)
 else if (zaN l name).2≠0 then ([],(zaN l name).2)
 else if (zaN l tn).2≠0 then ([],(zaN l tn).2)
 else if (zaN l name).1≠(zaN l tn).1 then ([],9)
 else zk8 l (zaN l name).1 name tn
theorem zoM(l:List Rw)(fl cd ca:Int)(name tn:ByteArray)(hf:fl<=0)(h0:0<=ca)(hd:DstL l):(zkP l fl cd ca name tn).1=zhV l name tn:=by
 unfold zkP zhV;by_cases h1:Ds.name (Ds.bl name)=false∨Ds.name (Ds.bl tn)=false
 · rw[if_pos h1,if_pos h1]
 rw[if_neg h1,if_neg h1];refine zjN l fl cd ca name _ (fun id=>if (zaN l tn).2≠0 then ([],(zaN l tn).2) else if id≠(zaN l tn).1 then ([],9) else zk8 l id name tn) hf h0 fun id c hc=>?_
 refine zjN l fl cd c tn _ (fun id2=>if id≠id2 then ([],9) else zk8 l id name tn) hf hc fun id2 c2 hc2=>?_
 by_cases h:id≠id2
 · rw[if_pos h,if_pos h]
 · rw[if_neg h,if_neg h,zsN l fl cd c2 id name tn hf hc2 hd]
theorem zpG{pre:ByteArray}{id:Int}(hp:zeC pre=true)(h1:2<=id)(h2:id<=15):okX (zf3 pre id)=true:=by
 unfold zeC at hp;rw[Bool.and_eq_true,decide_eq_true_eq] at hp;obtain⟨hn,hc⟩:=hp;have hc2:(Ds.bl pre).count 46<2:=by unfold Lib.countByte at hc;unfold Ds.bl;omega
 have hl:=Ds.pieces_len (Ds.bl pre);unfold okX zf3;rw[if_neg (show ¬ ((3:Int)=0) by decide),if_neg (show ¬ ((3:Int)=1) by decide),if_neg (show ¬ ((3:Int)=2) by decide),if_pos (show (3:Int)=3 from rfl)];unfold okC;rw[Bool.and_eq_true,Bool.and_eq_true];refine⟨⟨?_,?_⟩,(zbj _ _ _ _ _ _).2 ⟨rfl,rfl,rfl⟩⟩
 · unfold Vp.nameC;simp only[hn,Bool.true_and,decide_eq_true_eq]
   omega
 · unfold Vp.cat Vp.rng;simp
   omega
def zpH(l:List Rw)(pre:ByteArray)(id:Int):List Ch × Int :=
 if zeC pre=false∨id<2∨15<id then ([],1)
 else if (zbd l 1 3 pre).2=0 then ([],5)
 else if (zbd l 1 3 pre).2≠6 then ([],(zbd l 1 3 pre).2)
 else if (zaN l pre).2≠0 then ([],(zaN l pre).2)
 else if hnF l (zaN l pre).1 pre=true then ([],9)
 else ([zby 1 (zf3 pre id)],0)
theorem zrj(l:List Rw)(fl cd ca:Int)(pre:ByteArray)(id:Int)(hf:fl<=0)(h0:0<=ca)(hd:DstL l):(ztp l fl cd ca pre id).1=zpH l pre id:=by
 have e:=zdg l fl cd ca 1 3 pre hf h0;have c:=(zbJ l fl cd ca 1 3 pre).1;unfold ztp zpH;rw[e];have c1:0<=(zbn l fl cd ca 1 3 pre).2:=by omega
 generalize (zbn l fl cd ca 1 3 pre).2=cb at c1 ⊢;by_cases h1:zeC pre=false∨id<2∨15<id
 · rw[if_pos h1,if_pos h1]
 rw[if_neg h1,if_neg h1]
 have hp:zeC pre=true:=by
  cases hq:zeC pre
  · exact absurd (.inl hq) h1
  · rfl
 have hok:=zpG (id:=id) hp (by omega) (by omega);by_cases h2:(zbd l 1 3 pre).2=0
 · rw[if_pos h2,if_pos h2]
 rw[if_neg h2,if_neg h2];by_cases h3:(zbd l 1 3 pre).2≠6
 · rw[if_pos h3,if_pos h3]
 rw[if_neg h3,if_neg h3];refine zjN l fl cd cb pre _ (fun old=>if hnF l old pre=true then ([],9) else ([zby 1 (zf3 pre id)],0)) hf c1 fun old c hc=>?_
 have eu:=znx l fl cd c old pre hf hc hd hp;unfold con1F;rw[eu,hok];cases hnF l old pre
 · rfl
 · rfl
def zk5(l:List Rw)(pre:ByteArray):List Ch × Int :=
 if zeC pre=false then ([],1)
 else if (zbd l 1 3 pre).2≠0 then ([],(zbd l 1 3 pre).2)
 else if hnF l (zbd l 1 3 pre).1.1.cat pre=true then ([],9)
 else ([(1,1,zaT 3 pre,⟨#[]⟩,⟨#[]⟩)],0)
theorem zrr(l:List Rw)(fl cd ca:Int)(pre:ByteArray)(hf:fl<=0)(h0:0<=ca)(hd:DstL l):(zts l fl cd ca pre).1=zk5 l pre:=by
 have e:=zdg l fl cd ca 1 3 pre hf h0;have c:=(zbJ l fl cd ca 1 3 pre).1;unfold zts zk5;rw[e];have c1:0<=(zbn l fl cd ca 1 3 pre).2:=by omega
 generalize (zbn l fl cd ca 1 3 pre).2=cb at c1 ⊢;cases hp:zeC pre
 · rw[if_pos rfl,if_pos rfl]
 rw[if_neg (show ¬ (true=false) by decide),if_neg (show ¬ (true=false) by decide)];by_cases h2:(zbd l 1 3 pre).2≠0
 · rw[if_pos h2,if_pos h2]
 rw[if_neg h2,if_neg h2];have hk:=(zgG (Classical.byContradiction fun q=>h2 q)).2.2;have eu:=znx l fl cd cb (zbd l 1 3 pre).1.1.cat pre hf c1 hd hp;rw[eu];cases hnF l (zbd l 1 3 pre).1.1.cat pre
 · unfold zbf;rw[hk];rfl
 · rfl
theorem zsp{x:Fu}{tn:ByteArray}(h:okX x=true)(hk:x.1.kind=0)(hn:Ds.name (Ds.bl tn)=true):okX (zid x tn)=true:=by
 obtain⟨e,l2,g2⟩:=x;unfold okX zid at *;dsimp only at *;rw[if_pos hk] at h ⊢;unfold okD at *;dsimp only;rw[Bool.and_eq_true,Bool.and_eq_true] at h ⊢;obtain⟨⟨-,h2⟩,h3⟩:=h;refine⟨⟨hn,h2⟩,?_⟩
 obtain⟨e1,e2,e3⟩:=(zbj _ _ _ _ _ _).1 h3;refine (zbj _ _ _ _ _ _).2 ⟨?_,rfl,e3⟩
 have:=congrArg (fun z:En=>{ z with name:=tn }) e1;exact this
theorem zsq{x:Fu}{tn:ByteArray}(h:okX x=true)(hk:x.1.kind=2)(hn:Ds.name (Ds.bl tn)=true)(hne:tn≠x.1.name):okX (zda x tn)=true:=by
 obtain⟨e,l2,g2⟩:=x;unfold okX zda at *;dsimp only at *;rw[if_neg (by omega),if_neg (by omega),if_pos hk] at h ⊢;unfold okA at *;dsimp only;rw[Bool.and_eq_true,Bool.and_eq_true] at h ⊢;obtain⟨⟨h1,-⟩,h3⟩:=h;obtain⟨e1,e2,e3⟩:=(zbj _ _ _ _ _ _).1 h3;refine⟨⟨h1,?_⟩,(zbj _ _ _ _ _ _).2 ⟨?_,e2,e3⟩⟩
 · unfold Vp.ali;dsimp only;rw[hn,zei,decide_eq_false hne];rfl
 · have:=congrArg (fun z:En=>{ z with target:=tn }) e1;exact this
theorem zgm(name:ByteArray)(P:Fu->Prop):∀ (S:List Rw) (out:List Fu),(∀ a∈out,P a)->(∀ x∈S,(zaS x.2.1 x.2.2).2=0->P (zaS x.2.1 x.2.2).1)->∀ a∈(zji name S out).1,P a
 | [],out,h,_=>h
 | x::S,out,h,hS=>by
   rw[zji];by_cases h1:(zaS x.2.1 x.2.2).2≠0
   · rw[if_pos h1];intro a ha;cases ha
   · rw[if_neg h1];have hx:=hS x (by simp) (Classical.byContradiction fun q=>h1 q);by_cases h2:(zaS x.2.1 x.2.2).1.1.target=name
     · rw[if_pos h2];refine zgm name P S _ (fun a ha=>?_) (fun y hy=>hS y (by simp [hy]))
       rcases List.mem_append.1 ha with ha|ha
       · exact h a ha
       · rw[List.mem_singleton] at ha;rw[ha];exact hx
     · rw[if_neg h2];exact zgm name P S _ h (fun y hy=>hS y (by simp [hy]))
theorem zmt{k:Int}(h:Ek.letter k=65):k=2:=by
 unfold Ek.letter at h
 (repeat' split at h) <;> first|assumption|(exact absurd h (by decide))
theorem zqO(l:List Rw)(id:Int)(name:ByteArray):∀ a∈(zeW l id name).1,okX a=true∧a.1.kind=2∧∃ x∈l,x.1=id∧x.2.1=zaT 2 a.1.name:=by
 unfold zeW;refine zgm name (fun a=>okX a=true∧a.1.kind=2∧∃ x∈l,x.1=id∧x.2.1=zaT 2 a.1.name) (srt id 65 l) [] (fun a ha=>by cases ha) fun x hx h0=>?_
 obtain⟨h1,h2⟩:=znl hx;obtain⟨q1,q2⟩:=zea (k:=x.2.1) (r:=x.2.2) (fun q=>q h0);generalize (zaS x.2.1 x.2.2).1=y at q1 q2 ⊢;unfold inL at h2;simp only[Bool.and_eq_true,decide_eq_true_eq] at h2
 have hk:y.1.kind=2:=by
  have h3:=h2.2;rw[show kyR x=Ds.bl x.2.1 from rfl,<-q2] at h3;unfold zfr Ek.key at h3;split at h3
  · exact zmt (by simpa using h3)
  · simp at h3
 refine⟨q1,hk,x,h1,h2.1,?_⟩
 have e:zaT 2 y.1.name=⟨(zfr y).toArray⟩:=by unfold zaT zfr;rw[hk]
 rw[e,q2,Ds.mk_bl]
theorem zom{l:List Rw}{id kind:Int}{name:ByteArray}(h:(zbd l id kind name).2=6):zbS id (zaT kind name) l=none:=by
 unfold zbd zbn at h;by_cases hk:zaT kind name=⟨#[]⟩
 · rw[if_pos hk] at h;exact absurd (show (1:Int)=6 from h) (by decide)
 rw[if_neg hk,if_neg (by decide)] at h
 cases hr:zbS id (zaT kind name) l with
 | none=>rfl
 | some s =>
   rw[hr] at h;exfalso
   dsimp only at h;unfold zaS at h;split at h
   · exact absurd (show (11:Int)=6 from h) (by decide)
   · split at h
     · exact absurd (show (0:Int)=6 from h) (by decide)
     · exact absurd (show (11:Int)=6 from h) (by decide)
section
open Go.RowKit
set_option linter.unusedSimpArgs false
attribute [local go_sem ↓] zaV zcu zaW zaz za1 zi8
attribute [local go_sem] zav zap zal zaI zaJ zae zaq zai zaw zao zas zan zaa zaj zaf zaA zax zak zag zar zaG zaC zaE
end
end Go.Proofs.YtefcmdmfgdcpmaaGreatDoor
