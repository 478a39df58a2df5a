/- The maps of package rebuild's Entries: take; the third closure. -/
import Derived.Test.YtnojclchnhmggaaGreatDoorBd
namespace Go.Proofs.YtnojclchnhmggaaGreatDoor
open Go.RowKit
set_option maxRecDepth 8000
set_option maxHeartbeats 8000000
section
open Go.ChangeMaps (setBlock)
set_option linter.unusedSimpArgs false
theorem ldTP (ev:Operand->Value) (w:World) (dst x t pos af gd) (h1:isHead (ev x)=true) (h2:(row w (headOf (ev x))).size=34) :
  (execOp ev ⟨dst,.load 125 x,t,pos,af,gd⟩).run Tryz.prog w=.ok (.value (.agg (row w (headOf (ev x))))) w :=
 exec_load_row ev w _ 33 _ Tryz.underlying125 rfl (by kernel_rfl) dst x t pos af gd h1 h2
theorem stTP (ev:Operand->Value) (w:World) (zs:Array Value) (t:TypeId) (dst x y t' pos af gd) (h0:zs.size=34) (h1:isHead (ev x)=true) (h2:headOf (ev x)=w.heap.size) (h3:isAggV (ev y)=true) (h4:(cellsOfV (ev y)).size=34) (h5:allOne (cellsOfV (ev y)).toList=true) :
  (execOp ev ⟨dst,.store 125 x y,t',pos,af,gd⟩).run Tryz.prog (w.alloc (.cells zs t))=.ok .skip (w.alloc (.cells (cellsOfV (ev y)) t)) :=
 exec_store_new ev w _ 33 (by kernel_rfl) zs t dst x y t' pos af gd h0 h1 h2 h3 h4 h5
def isIntW:Value->Bool | .int _ _=>true | _=>false
theorem isIntW_mk (k:IntKind) (n:Int):isIntW (.int k n)=true:=rfl
theorem bld34 (zs cs:Array Value) (v:Value) (hz:zs.size=34) (hc:cs.size=33) :
  (Array.foldl (fun cs (x:Value × Nat)=>cs.setIfInBounds x.snd x.fst) zs cs.zipIdx 0 33).setIfInBounds 33 v=cs++#[v]∧(Array.foldl (fun cs (x:Value × Nat)=>cs.setIfInBounds x.snd x.fst) zs cs.zipIdx 0 33).size=34:=by
 have e1:Array.foldl (fun cs (x:Value × Nat)=>cs.setIfInBounds x.snd x.fst) zs cs.zipIdx 0 33=over zs 0 cs.toList:=by
  have hs:cs.zipIdx.size=33:=by simp [hc]
  rw[<-hs,<-Array.foldl_toList,Array.toList_zipIdx,foldl_over]
 rw[e1]
 refine⟨?_,by rw[over_size];exact hz⟩
 have h2:=over_app cs.toList [v] 0 zs
 rw[Array.length_toList,hc] at h2
 have h3:over zs 0 (cs++#[v]).toList=cs++#[v]:=over_all _ _ (by rw[hz,Array.size_append,hc];rfl)
 rw[Array.toList_append] at h3
 exact h2.trans h3
theorem bldTP (ev:Operand->Value) (w:World) (dst x y t pos af gd) (h3:isAggV (ev x)=true) (h4:(cellsOfV (ev x)).size=33) (h5:isIntW (ev y)=true) :
  (execOp ev ⟨dst,.build 125 #[(0,x),(1,y)],t,pos,af,gd⟩).run Tryz.prog w=.ok (.value (.agg (cellsOfV (ev x)++#[ev y]))) w:=by
 obtain⟨cs,hc⟩:∃ cs,ev x=.agg cs:=by
  unfold isAggV at h3
  split at h3
  · rename_i g h;exact⟨g,h⟩
  · cases h3
 obtain⟨k,n,hn⟩:∃ k n,ev y=.int k n:=by
  unfold isIntW at h5
  split at h5
  · rename_i k n h;exact⟨k,n,h⟩
  · cases h5
 rw[hc,cellsOfV_mk] at h4 ⊢
 rw[hn]
 go_simp
 have hb:=fun zs hz=>bld34 zs cs (.int k n) hz h4
 rw[(hb _ rfl).2,(hb _ rfl).1]
 rfl
theorem TE.cs_0 (t:TE):t.cs[0]?=some (.int .i64 t.1.1.1.kind):=by unfold TE.cs;rw[Array.getElem?_append_left (by rw[vals_size];decide)];exact vals_0 _ _ _
theorem TE.cs_1 (t:TE):t.cs[1]?=some (.string t.1.1.1.name):=by unfold TE.cs;rw[Array.getElem?_append_left (by rw[vals_size];decide)];exact vals_1 _ _ _
theorem TE.cs_26 (t:TE):t.cs[26]?=some (.int .i64 t.1.1.1.last):=by unfold TE.cs;rw[Array.getElem?_append_left (by rw[vals_size];decide)];exact vals_26 _ _ _
theorem TE.cs_33 (t:TE):t.cs[33]?=some (.int .i64 t.1.2):=by unfold TE.cs;rw[Array.getElem?_append_right (by rw[vals_size];decide),vals_size];rfl
attribute [local go_sem ↓] ldTP stTP bldTP
attribute [local go_sem] isHead_mk headOf_mk offOf_mk isPtr_mk cellsOfV_mk isAggV_mk row_new row_new2 row_new2' row_drew row_drewN allOne_nil allOne_cons one_int one_bool one_string one_pointer one_slice one_func TE.cs_size TE.cs_one isIntW_mk
theorem re_bS (x y:TE) (w:World):Calls Tryz.prog 65 #[.agg x.cs,.agg y.cs] w fun r w'=>r=.returned (.bool (betS x.1 y.1))∧Below w.heap.size w w':=by
 have R0:=row_new2 w x.cs 125 (0,0) (.cells y.cs 125)
 have R1:=row_new2' w y.cs 125 (0,0) (.cells x.cs 125)
 have c0:=cell_row R0 33 _ x.cs_33
 have c1:=cell_row R1 33 _ y.cs_33
 unfold betS
 go_enter Tryz.func65,Tryz.ntmps65
 go_wp2_with fail
 go_ret
 exact⟨rfl,by exact belA⟩
def orL:List Int->Int
 | []=>0
 | x::r=>if x=0 then orL r else x
theorem cmp_or (v:Value) (l:List Int) (w:World) (h:IS w v l):Calls Tryz.prog 67 #[v] w fun r w'=>r=.returned (.int .i64 (orL l))∧w'=w:=by
 obtain⟨a,c,rfl,hz,hc⟩:=h
 have HC:=Lib.hid hc
 obtain⟨R,hR⟩:∃ R,orL l=R:=⟨_,rfl⟩
 rw[hR]
 have HR:=Lib.hid hR
 clear hc hR
 go_enter Tryz.func67,Tryz.ntmps67
 go_wp2_with fail
 go_loopw [8] (fun i wr=>∃ k:Nat,k<=l.length∧i=.int .i64 k∧Hid (orL (l.drop k)=R)∧wr=w) (fun i _=>l.length - (intOf i).toNat)
 case atStart=>exact⟨0,Nat.zero_le _,rfl,HR,rfl⟩
 case round =>
  obtain⟨k,hk,rfl,HK,rfl⟩:=hrel
  by_cases hlt:k<l.length
  · obtain⟨b,o,rfl,hb,hcell⟩:=HC.out (by omega)
    have p0:=hcell k hlt
    have hs:=HK.out
    rw[List.drop_eq_getElem_cons hlt,orL] at hs
    generalize l[k]=x at hs p0
    have i1:(0:Int)<=(k:Int):=by omega
    have i2:(k:Int)<(l.length:Int):=by omega
    clear hcell HK
    by_cases h0:x=0
    · rw[if_pos h0] at hs
      have t1:(x != 0)=false:=by rw[h0];rfl
      have HS:=Lib.hid hs
      clear hs h0
      go_wp2_with fail
      go_roundw
      case rel=>exact⟨k+1,by omega,by go_num,HS,trivial⟩
      case measure=>simp [intOf];omega
    · rw[if_neg h0] at hs
      have t1:(x != 0)=true:=bne_iff_ne.2 h0
      subst hs
      clear h0
      go_wp2_with fail
      go_ret
      exact⟨rfl,rfl⟩
  · obtain rfl:k=l.length:=by omega
    have hs:=HK.out
    rw[List.drop_length] at hs
    subst hs
    clear HK
    go_wp2_with fail
    go_ret
    exact⟨rfl,rfl⟩
theorem cmp_nan (a:Int) (w:World):Calls Tryz.prog 154 #[.int .i64 a] w fun r w'=>r=.returned (.bool false)∧w'=w:=by
 have t:(a != a)=false:=by simp
 go_enter Tryz.func154,Tryz.ntmps154
 go_wp2_with fail
 go_ret
 exact⟨rfl,rfl⟩
theorem cmp_int (a b:Int) (w:World):Calls Tryz.prog 68 #[.int .i64 a,.int .i64 b] w fun r w'=>r=.returned (.int .i64 (cmpI a b))∧w'=w:=by
 unfold cmpI
 by_cases h1:a<b
 · rw[if_pos h1]
   go_enter Tryz.func68,Tryz.ntmps68
   go_wp2_with (go_at_call 154;(with_reducible refine (cmp_nan _ _).mono ?_);rintro _ w3 ⟨rfl,rfl⟩)
   go_ret
   exact⟨rfl,rfl⟩
 · rw[if_neg h1]
   by_cases h2:b<a
   · rw[if_pos h2]
     go_enter Tryz.func68,Tryz.ntmps68
     go_wp2_with (go_at_call 154;(with_reducible refine (cmp_nan _ _).mono ?_);rintro _ w3 ⟨rfl,rfl⟩)
     go_ret
     exact⟨rfl,rfl⟩
   · rw[if_neg h2]
     go_enter Tryz.func68,Tryz.ntmps68
     go_wp2_with (go_at_call 154;(with_reducible refine (cmp_nan _ _).mono ?_);rintro _ w3 ⟨rfl,rfl⟩)
     go_ret
     exact⟨rfl,rfl⟩
theorem is_new2 (W:World) (a b:Int) (t:TypeId):IS (W.alloc (.cells #[.int .i64 a,.int .i64 b] t)).drew (.slice (some ⟨W.heap.size,0,none⟩) 2 2) [a,b]:=(is_new W [a,b] t (by simp)).below (Below.drew (Below.refl _ _))
theorem is_new4 (W:World) (a b c d:Int) (t:TypeId):IS (W.alloc (.cells #[.int .i64 a,.int .i64 b,.int .i64 c,.int .i64 d] t)).drew (.slice (some ⟨W.heap.size,0,none⟩) 4 4) [a,b,c,d]:=(is_new W [a,b,c,d] t (by simp)).below (Below.drew (Below.refl _ _))
end
section
open Go.ChangeMaps (setBlock)
set_option linter.unusedSimpArgs false
def entV (ts:List TE):List (ByteArray × Value):=ts.map (fun t=>(t.1.1.1.name,.agg t.cs))
theorem entV_len (ts:List TE):(entV ts).length=ts.length:=by unfold entV;rw[List.length_map]
def sK (s:ByteArray):Value:=.string s
theorem same_s (a b:ByteArray):(a==b)=decide (a=b):=by
 rw[Bool.eq_iff_iff,MapKept.bytes_beq,decide_eq_true_eq]
theorem zero_told (w:World):(zeroValue 125).run Tryz.prog w=.ok (.agg (TE.cs default)) w:=by
 show _=Result.ok (Value.agg (zcells 0 ⟨#[]⟩++#[.int .i64 0])) w
 rw[<-zlit_eq]
 kernel_rfl
theorem mk_s:MK sK Tryz.prog 123 9 125 (.agg (TE.cs default)) where
 hu:=Tryz.underlying123
 ck b k w:=by cases b <;> kernel_rfl
 fk k es w:=fk_now (pk:=sK) Tryz.underlying9 (fun a b=>congrArg some (same_s a b)) k es w
 sb k:=by unfold sK;unfold Instr.sameBits;simp [Instr.sameBits,MapKept.bytes_beq]
 zv w:=zero_told w
theorem tput_find {α κ:Type} [DecidableEq κ] (k:α->κ) (bet:α->α->Bool) (x:α):∀ l:List α,tput k bet l x=match l.find? (fun y=>decide (k x=k y)) with
  | none=>l++[x]
  | some y=>if bet x y=true then tput k (fun _ _=>true) l x else l
 | []=>rfl
 | z::r=>by
   have ih:=tput_find k bet x r
   rw[tput,List.find?_cons]
   by_cases e:k z=k x
   · rw[if_pos e,decide_eq_true e.symm]
     dsimp only
     rw[tput,if_pos e];rfl
   · rw[if_neg e,decide_eq_false (fun q=>e q.symm),ih]
     dsimp only
     cases r.find? (fun y=>decide (k x=k y)) with
     | none=>rfl
     | some y =>
       dsimp only
       split
       · rw[tput,if_neg e]
       · rfl
def stT (bet:Tl->Tl->Bool) (ts:List TE) (t:TE):List TE:=tput (fun t:TE=>t.1.1.1.name) (fun a b=>bet a.1 b.1) ts t
theorem stT_fst (bet:Tl->Tl->Bool) (ts:List TE) (t:TE):(stT bet ts t).map Prod.fst=tput tNm bet (ts.map Prod.fst) t.1:=tput_map Prod.fst tNm bet t ts
theorem entV_get (k:ByteArray):∀ ts:List TE,gget k (entV ts)=(ts.find? (fun t=>decide (k=t.1.1.1.name))).map (fun t=>.agg t.cs)
 | []=>rfl
 | t::r=>by
   unfold entV at *
   rw[List.map_cons,gget,List.find?_cons]
   by_cases e:k=t.1.1.1.name
   · rw[if_pos e,decide_eq_true e];rfl
   · rw[if_neg e,decide_eq_false e];exact entV_get k r
theorem entV_put (ts:List TE) (t:TE):gput t.1.1.1.name (.agg t.cs) (entV ts)=entV (tput (fun t:TE=>t.1.1.1.name) (fun _ _=>true) ts t) :=
 (tput_map (fun t:TE=>(t.1.1.1.name,Value.agg t.cs)) Prod.fst (fun _ _=>true) t ts).symm
theorem tput_new {α κ:Type} [DecidableEq κ] (k:α->κ) (bet:α->α->Bool) (x:α) (l:List α) (h:l.find? (fun y=>decide (k x=k y))=none):tput k bet l x=tput k (fun _ _=>true) l x:=by
 rw[tput_find k bet,tput_find k (fun _ _=>true),h]
attribute [local go_sem ↓] ldTP stTP bldTP
attribute [local go_sem] isHead_mk headOf_mk offOf_mk isPtr_mk cellsOfV_mk isAggV_mk row_new row_new2 row_new2' row_drew row_drewN allOne_nil allOne_cons one_int one_bool one_string one_pointer one_slice one_func TE.cs_size TE.cs_one isIntW_mk
theorem re_take (bet:Tl->Tl->Bool) (Fb:Nat) (m:Nat) (ts:List TE) (t:TE) (w:World) (hE:∀ (args:Array Value) (W:World),(callFunc Fb args).run Tryz.prog W=.ok (.enter Fb args) W) (hB:∀ (x y:TE) (W:World),Calls Tryz.prog Fb #[.agg x.cs,.agg y.cs] W fun r w'=>r=.returned (.bool (bet x.1 y.1))∧Below W.heap.size W w')
  (hm:w.heap[m]?=some (.map (gent sK (entV ts)) (entV ts).length)) :
  Calls Tryz.prog 64 #[.map (some m),.agg t.cs,.func (.func Fb) #[] #[]] w fun r w'=>r=.returned (.tuple #[])∧w'.heap[m]?=some (.map (gent sK (entV (stT bet ts t))) (entV (stT bet ts t)).length)∧w.grownBy w' (some m):=by
 have hml:=(Array.getElem?_eq_some_iff.1 hm).1
 have HB:=Lib.hid hB
 have HM:=Lib.hid (fun (W:World) (b:Below w.heap.size w W)=>(b.block m hml).trans hm)
 have R0:=fun o=>row_new2 w t.cs 125 (0,0) o
 have c1:=fun o=>cell_row (R0 o) 1 _ t.cs_1
 have c1':=cell_row (row_new w t.cs 125 (0,0)) 1 _ t.cs_1
 have hg:=entV_get t.1.1.1.name ts
 have hp:=entV_put ts t
 clear hB
 cases hf:ts.find? (fun y=>decide (t.1.1.1.name=y.1.1.1.name)) with
 | none =>
   rw[hf] at hg
   have hR:glkV (.agg (TE.cs default)) true (gget t.1.1.1.name (entV ts))=.tuple #[.agg (TE.cs default),.bool false]:=by rw[hg];rfl
   have hq:stT bet ts t=tput (fun t:TE=>t.1.1.1.name) (fun _ _=>true) ts t:=tput_new _ _ t ts hf
   rw[<-hq] at hp
   have HP:=Lib.hid hp
   clear hf hg hq hp hm
   go_enter Tryz.func64,Tryz.ntmps64
   go_wp2_with (first
    | (at_lookup;refine mk_s.wlk _ rfl _ _ true rfl m _ (entV ts) t.1.1.1.name rfl rfl (HM.out _ (by exact belA)) _ hR ?_)
    | (at_mapUpdate;refine mk_s.wmu _ rfl _ _ _ rfl m (entV ts) t.1.1.1.name (.agg t.cs) rfl rfl rfl (HM.out _ (by exact belA)) ?_;intro w5 h5 g5 s5;have H5:=Lib.hid h5;have G5:=Lib.hid g5;clear h5 g5 s5))
   go_end0
   exact⟨rfl,by rw[<-HP.out];exact H5.out,(grown_of_below (some m) (show Below w.heap.size w _ by exact belA)).trans G5.out⟩
 | some t0 =>
   rw[hf] at hg
   have hR:glkV (.agg (TE.cs default)) true (gget t.1.1.1.name (entV ts))=.tuple #[.agg t0.cs,.bool true]:=by rw[hg];rfl
   have hq:=tput_find (fun t:TE=>t.1.1.1.name) (fun a b=>bet a.1 b.1) t ts
   rw[hf] at hq
   dsimp only at hq
   have H0:=Lib.hid (HB.out t t0)
   clear HB hf hg
   generalize bet t.1 t0.1=bb at hq H0
   have HQ:Hid (stT bet ts t=if bb=true then tput (fun t:TE=>t.1.1.1.name) (fun _ _=>true) ts t else ts):=Lib.hid hq
   have HP:=Lib.hid hp
   clear hq hp hm
   cases bb
   · go_enter Tryz.func64,Tryz.ntmps64
     go_wp2_with (first
      | (at_lookup;refine mk_s.wlk _ rfl _ _ true rfl m _ (entV ts) t.1.1.1.name rfl rfl (HM.out _ (by exact belA)) _ hR ?_)
      | ((with_reducible refine (H0.out _).mono ?_);rintro _ w4 ⟨rfl,hb⟩;have B4:=Lib.hid (Below.trans (show Below w.heap.size w _ by exact belA) (hb.mono (by simp;try omega)));clear hb))
     go_end0
     exact⟨rfl,by rw[HQ.out,if_neg (by simp)];exact HM.out _ B4.out,grown_of_below _ B4.out⟩
   · go_enter Tryz.func64,Tryz.ntmps64
     go_wp2_with (first
      | (at_lookup;refine mk_s.wlk _ rfl _ _ true rfl m _ (entV ts) t.1.1.1.name rfl rfl (HM.out _ (by exact belA)) _ hR ?_)
      | ((with_reducible refine (H0.out _).mono ?_);rintro _ w4 ⟨rfl,hb⟩;have R4:=row_below hb (R0 _) (by rw[TE.cs_size];decide);have c4:=cell_row R4 1 _ t.cs_1;have B4:=Lib.hid (Below.trans (show Below w.heap.size w _ by exact belA) (hb.mono (by simp;try omega)));clear hb)
      | (at_mapUpdate;refine mk_s.wmu _ rfl _ _ _ rfl m (entV ts) t.1.1.1.name (.agg t.cs) rfl rfl rfl (HM.out _ B4.out) ?_;intro w5 h5 g5 s5;have H5:=Lib.hid h5;have G5:=Lib.hid g5;clear h5 g5 s5))
     go_end0
     exact⟨rfl,by rw[HQ.out];simp only[if_true];rw[<-HP.out];exact H5.out,(grown_of_below (some m) B4.out).trans G5.out⟩
theorem or_two (a b c d:Int):decide (0<orL [cmpI a b,cmpI c d])=(decide (b<a) || (decide (a=b)&&decide (d<c))):=by
 unfold orL orL orL cmpI
 by_cases h1:a<b
 · simp [h1];omega
 · by_cases h2:b<a
   · simp [h1,h2]
   · obtain rfl:a=b:=by omega
     by_cases h3:c<d
     · simp [h3];omega
     · by_cases h4:d<c
       · simp [h3,h4]
       · simp [h3,h4]
theorem re_bG (x y:TE) (w:World):Calls Tryz.prog 66 #[.agg x.cs,.agg y.cs] w fun r w'=>r=.returned (.bool (betG x.1 y.1))∧Below w.heap.size w w':=by
 have R0:=row_new2 w x.cs 125 (0,0) (.cells y.cs 125)
 have R1:=row_new2' w y.cs 125 (0,0) (.cells x.cs 125)
 have c0:=cell_row R0 26 _ x.cs_26
 have c1:=cell_row R0 33 _ x.cs_33
 have d0:=cell_row R1 26 _ y.cs_26
 have d1:=cell_row R1 33 _ y.cs_33
 have hb:Below w.heap.size w ((w.alloc (.cells x.cs 125)).alloc (.cells y.cs 125)):=by exact belA
 have ho:=or_two x.1.1.1.last y.1.1.1.last x.1.2 y.1.2
 rw[show (decide (y.1.1.1.last<x.1.1.1.last) || (decide (x.1.1.1.last=y.1.1.1.last)&&decide (y.1.2<x.1.2)))=betG x.1 y.1 from rfl] at ho
 have HO:=Lib.hid ho
 clear R0 R1 ho
 go_enter Tryz.func66,Tryz.ntmps66
 go_upto_region 1 with fail
 generalize x.1.1.1.last=xl at c0 HO
 generalize y.1.1.1.last=yl at d0 HO
 generalize x.1.2=xi at c1 HO
 generalize y.1.2=yi at d1 HO
 generalize ((w.alloc _).alloc _)=W0 at c0 c1 d0 d1 hb ⊢
 have hk:∀ W1 W2:World,Below W1.heap.size W1 W2->(W1.cell? ⟨w.heap.size,26,none⟩=some (.int .i64 xl)∧W1.cell? ⟨w.heap.size,33,none⟩=some (.int .i64 xi)∧W1.cell? ⟨w.heap.size+1,26,none⟩=some (.int .i64 yl)∧W1.cell? ⟨w.heap.size+1,33,none⟩=some (.int .i64 yi)∧Hid (Below w.heap.size w W1))->(W2.cell? ⟨w.heap.size,26,none⟩=some (.int .i64 xl)∧W2.cell? ⟨w.heap.size,33,none⟩=some (.int .i64 xi)∧W2.cell? ⟨w.heap.size+1,26,none⟩=some (.int .i64 yl)∧W2.cell? ⟨w.heap.size+1,33,none⟩=some (.int .i64 yi)∧Hid (Below w.heap.size w W2)):=fun W1 W2 e ⟨a,b,c,d,f⟩=>⟨below_cell e a,below_cell e b,below_cell e c,below_cell e d,Lib.hid (bt f.out e)⟩
 go_region_held3 (fun w'=>w'.cell? ⟨w.heap.size,26,none⟩=some (.int .i64 xl)∧w'.cell? ⟨w.heap.size,33,none⟩=some (.int .i64 xi)∧w'.cell? ⟨w.heap.size+1,26,none⟩=some (.int .i64 yl)∧w'.cell? ⟨w.heap.size+1,33,none⟩=some (.int .i64 yi)∧Hid (Below w.heap.size w w')) (first | exact⟨c0,c1,d0,d1,Lib.hid hb.drew⟩ | exact⟨c0,c1,d0,d1,Lib.hid hb⟩ | assumption | exact hk _ _ (below_al' _ _) (by assumption)) (first
  | (go_at_call 68;(with_reducible refine (cmp_int _ _ _).mono ?_);rintro _ w3 ⟨rfl,rfl⟩)
  | (go_at_call 67;(with_reducible refine (cmp_or _ [cmpI xl yl,cmpI xi yi] _ (is_new2 _ _ _ _)).mono ?_);rintro _ w3 ⟨rfl,rfl⟩))
 all_goals
  go_wp2_with fail
  go_ret
  rename_i hq
  exact⟨congrArg (fun b=>Ending.returned (.bool b)) HO.out,hq.2.2.2.2.out⟩
end
end Go.Proofs.YtnojclchnhmggaaGreatDoor
