/-
  Operations, further: fields, indexes, lengths, append, maps, functions.
-/
import Derived.Test.YtpeomfjbcdahnaaGreatDoorFa
import Derived.Laws.StructEq
import Derived.Laws.BytesString
set_option linter.unusedSimpArgs false
set_option linter.unusedVariables false
namespace Fw
open Go
section
variable {P:Program}{a:Act}{o:Oper}{g:G}{w:World}{ρ:aU->V}{H:an}{ns:Nat}
variable {t el:TypeId}{v:V}{x' i':aU}{i:Operand}{n:Nat}
theorem Ec{b:Bool}{cs:Array Value}{us:List V}{off:Nat}(hn:fE P t=some n)(hb:oW P t=some b)(hl:off+n<=us.length)(hv:aN g w us cs.toList)(hm:A7 b ((us.drop off).take n)=some v)(h1:b=true\/n=1):∃x,(part t cs off).run P w=.ok x w/\RV g w v x:=by
 have cX:=(hv.drop off).take n;obtain⟨k1,k2⟩:=zF hm cX;have hlen:=hv.length;simp at hlen;cases b with
  |true=>refine⟨_,?_,k1⟩;simp only[part,Sem.run_bind,rM hb,Result.andThen_ok,abK,ck hn,Sem.run_pure];congr 2;grind
  |false=>
   have Zj:n=1:=by grind
   subst Zj;have:off<cs.size:=by omega
   refine⟨cs[off],?_,?_⟩
   ·simp[part,rM hb,Array.getElem?_eq_getElem this]
   ·have e:(cs.toList.drop off).take 1=[cs[off]]:=by rw[abq (by grind)];simp
    grind
theorem HD{x:Operand}{f off:Nat}{fs:Array Field}(ho:o.op=.fieldAddr t x f)(ht:P.underlying t=some (.struct fs))(hf:kI P fs f=some (off,n))(h0:0<n)(hx:ar x=some x')(h:bt ρ H ns (.dm off n x')=some (v,none))(ev:Ev ρ a g w)(hh:aw g w H):Good P a o g w ns v H:=by
 have hv:=ev _ _ hx;simp only[kI,aa9,aaA,aav]at hf;obtain⟨fd,hfd,s,hs,rfl,rfl⟩:=hf;have cH:=ck (P:=P) hs w;have hO:s≠0:=by omega
 have dT:∀aM off,a.eval x=.pointer (some ⟨aM,off,none⟩)->(execOp a.eval o).run P w=.ok (.value (.pointer (some ⟨aM,off+fd.offset,none⟩))) w:=by intro aM off he;simp[execOp,ho,he,Instr.fieldAt,run_underlying ht,hfd,Instr.sureAddr,fieldPlace,cH,hO,Addr.fF]
 simp only[bt]at h;split at h<;>simp only[aar,aav,reduceCtorEq]at h
 ·rename_i b hb q e;obtain⟨rfl,_⟩:=h;rw[e]at hv;simp only[RV]at hv;obtain⟨⟨⟨aM,off,h1⟩,hd⟩,h2⟩:=hv;refine Good.val hh (dT _ _ h1) ?_;simp_all[RV,Value.pointer.injEq,aar,Addr.mk.injEq,ab']
 ·rename_i cs e;obtain⟨rfl,_⟩:=h;rw[e]at hv;simp only[RV]at hv;obtain⟨aM,off,h1,h2,h3⟩:=hv;refine Good.val hh (dT _ _ h1) ?_;simp only[RV];refine⟨_,_,rfl,fun hn=>h2 (by grind),?_ ⟩;clear h1 dT h2 e;suffices h:∀(k:Nat)(ds:List D)(q:Nat),cP w (cl g w) aM q ds->cP w (cl g w) aM (q+k) (ds.drop k)/\cP w (cl g w) aM q (ds.take k)from(h s _ _ (h fd.offset _ _ h3).1).2;intro k ds;induction ds generalizing k with
   |nil=>grind[cP]
   |cons d ds ih=>
    intro q hq;cases k with
     |zero=>simp_all[abu,List.take_zero,cP,abX]
     |succ k=>grind[cP]
theorem cP.drop{im:Nat->Prop}{aM:Nat}:∀{ds:List D}{q:Nat}(k:Nat),cP w im aM q ds->cP w im aM (q+k) (ds.drop k)
 |[],_,k,_=>by simp[cP]
 |d::ds,q,0,h=>by grind
 |d::ds,q,k+1,h=>by simp only[cP]at h;simp;rw[show q+(k+1)=q+1+k by omega];exact cP.drop k h.2
theorem HE{x:Operand}{sz:Nat}(ho:o.op=.indexAddr t x i)(ht:P.underlying t=some (.slice el))(hs:fE P el=some sz)(hx:ar x=some x')(hi:ar i=some i')(h:bt ρ H ns (.bj sz x' i')=some (v,none))(ev:Ev ρ a g w)(hh:aw g w H):Good P a o g w ns v H:=by
 have hv:=ev _ _ hx;simp only[bt]at h;split at h
 ·cases h
 ·rename_i j ej;obtain⟨k,hk⟩:=ei ej (ev _ _ hi);have dT:∀aM off len cap,a.eval x=.slice (some ⟨aM,off,none⟩) len cap->j<len->(execOp a.eval o).run P w=.ok (.value (.pointer (some ⟨aM,off+j*sz,none⟩))) w:=by
   intro aM off len cap he hj;have:((j:Int)<(len:Int)):=by omega
   simp[execOp,ho,he,Instr.indexAt,hk,asIntOf,run_underlying ht,hj,ck hs,Addr.fF]
  split at h
  ·rename_i es e;split at h
   ·rename_i d hd;cases hb:Nat.beq d.length sz with
     |false=>grind
     |true=>
      rw[hb]at h;simp at h;obtain⟨rfl,_⟩:=h;rw[e]at hv;simp only[RV,Rd]at hv;have hj:j<es.length:=(aaz.1 hd).1;rcases hv with⟨rfl,_⟩|⟨aM,off,cap,uA,h1,h2,h3,h4⟩
      ·simp at hj
      ·obtain⟨h5,h6⟩:=dR.get j h4 hd;have:uA=sz:=by simp_all
       subst this;refine Good.val hh (dT _ _ _ _ h1 hj) ?_;grind[RV]
   ·cases h
  ·rename_i b hb off len uA e;cases hc:(Nat.beq sz uA&&Nat.blt j len&&eI H b hb)with
    |false=>grind
    |true=>
     rw[hc]at h;simp at h;obtain⟨rfl,_⟩:=h;simp only[aas]at hc;have e1:=aau hc.1.1;subst e1;have hj:j<len:=by simp_all
     rw[e]at hv;rcases jz hc.2 hh with⟨aM,cp,hg⟩|⟨rfl,hg⟩
     ·obtain⟨cap,h1,h2,h3⟩:=RV.qf hv hg;refine Good.val hh (dT _ _ _ _ h1 hj) ?_;grind[RV,Option.some.injEq]
     ·obtain⟨_,rfl,_⟩:=RV.uC hv hg;omega
  ·cases h
theorem Ed{x:Operand}{len sz:Nat}(ho:o.op=.indexAddr t x i)(ht:P.underlying t=some (.array len el))(hs:fE P el=some sz)(hx:ar x=some x')(hi:ar i=some i')(h:bt ρ H ns (.sb len sz x' i')=some (v,none))(ev:Ev ρ a g w)(hh:aw g w H):Good P a o g w ns v H:=by
 have hv:=ev _ _ hx;simp only[bt]at h;split at h
 ·cases h
 ·rename_i j ej;obtain⟨k,hk⟩:=ei ej (ev _ _ hi);cases hc:Nat.blt j len with
   |false=>grind
   |true=>
    rw[hc]at h;simp at h;have hj:j<len:=by simp_all
    have dT:∀aM off,a.eval x=.pointer (some ⟨aM,off,none⟩)->(execOp a.eval o).run P w=.ok (.value (.pointer (some ⟨aM,off+j*sz,none⟩))) w:=by intro aM off he;simp[execOp,ho,he,Instr.indexAt,hk,asIntOf,run_underlying ht,hj,ck hs,Addr.fF,Instr.sureAddr]
    split at h<;>simp only[aar,aav,reduceCtorEq]at h
    ·rename_i b hb q e;obtain⟨rfl,_⟩:=h;rw[e]at hv;simp only[RV]at hv;obtain⟨⟨⟨aM,off,h1⟩,hd⟩,h2⟩:=hv;refine Good.val hh (dT _ _ h1) ?_;simp_all[RV,Value.pointer.injEq,aar,Addr.mk.injEq,ab']
    ·rename_i cs e;obtain⟨rfl,_⟩:=h;rw[e]at hv;simp only[RV]at hv;obtain⟨aM,off,h1,h2,h3⟩:=hv;refine Good.val hh (dT _ _ h1) ?_;simp only[RV];exact⟨_,_,rfl,fun hn=>h2 (by grind),cP.drop _ h3⟩
theorem K6{x:Operand}(ho:o.op=.index t x i)(ht:P.underlying t=some .string)(hx:ar x=some x')(hi:ar i=some i')(h:bt ρ H ns (.iB x' i')=some (v,none))(ev:Ev ρ a g w)(hh:aw g w H):Good P a o g w ns v H:=by
 have hv:=ev _ _ hx;simp only[bt]at h;split at h
 ·cases h
 ·rename_i j ej;obtain⟨k,hk⟩:=ei ej (ev _ _ hi);split at h
  ·rename_i s e;split at h
   ·rename_i b hb;simp at h;obtain⟨rfl,_⟩:=h;rw[e]at hv;obtain⟨bs,h1,rfl⟩:=RV.str hv;refine Good.val (x:=.int .u8 b.toNat) hh ?_ (RV.zp _ _);have Be:bs[j]? =some b:=by
     have cy:=(aaz.1 hb).1;have UU:j<bs.size:=by simp_all
     rw[getElem?_pos bs j UU];have:=(aaz.1 hb).2;rw[←this];rfl
    simp[execOp,ho,h1,Instr.index,hk,asIntOf,run_underlying ht,Be]
   ·cases h
  ·cases h
theorem K7{x:Operand}{len sz j:Nat}{b:Bool}{cs:List V}(ho:o.op=.index t x i)(ht:P.underlying t=some (.array len el))(hs:fE P el=some sz)(hb:oW P el=some b)(h1:b=true\/sz=1)(hx:ar x=some x')(hi:ar i=some i')(ej:cN (ρ i')=some j)(e:ρ x'=.agg cs)(hj:j<len)(hl:len*sz<=cs.length)(hm:A7 b ((cs.drop (j*sz)).take sz)=some v)(ev:Ev ρ a g w)(hh:aw g w H):Good P a o g w ns v H:=by
 have hv:=ev _ _ hx;rw[e]at hv;simp only[RV]at hv;obtain⟨z,h2,h3⟩:=hv;obtain⟨k,hk⟩:=ei ej (ev _ _ hi);have hle:j*sz+sz<=cs.length:=by have:(j+1)*sz<=len*sz:=aa0 _ hj;grind
 obtain⟨y,h4,h5⟩:=Ec (P:=P) hs hb hle h3 hm h1;exact Good.val hh (by simp[execOp,ho,h2,Instr.index,hk,asIntOf,run_underlying ht,hj,ck hs,h4]) h5
theorem OI{x:Operand}{i:Nat}{vs:List V}(ho:o.op=.extract x i)(hx:ar x=some x')(e:ρ x'=.tuple vs)(hi:vs[i]? =some v)(ev:Ev ρ a g w)(hh:aw g w H):Good P a o g w ns v H:=by
 have hv:=ev _ _ hx;rw[e]at hv;simp only[RV]at hv;obtain⟨z,h2,h3⟩:=hv;obtain⟨y,h4,h5⟩:=h3.get i hi;have h4':z[i]? =some y:=by grind
 exact Good.val hh (by simp_all[execOp,Instr.extract]) h5
theorem gJ(ev:Ev ρ a g w):∀{l:List Operand}{l':List aU},bS ar l=some l'->aN g w (bI ρ l') (l.map a.eval)
 |[],l',h=>by grind[bS,bI,aN]
 |x::xs,l',h=>by
  simp only[bS]at h;split at h
  ·cases h
  ·rename_i y hy;split at h
   ·cases h
   ·rename_i ys D4;simp at h;subst h;simp;exact⟨ev _ _ hy,gJ ev D4⟩
theorem Ee{f:FuncId}{p q:Array Operand}{p' q':List aU}(ho:o.op=.makeFunc (.func f) p q)(hp:bS ar p.toList=some p')(hq:bS ar q.toList=some q')(ev:Ev ρ a g w)(hh:aw g w H):Good P a o g w ns (.func f (bI ρ p') (bI ρ q')) H:=by refine Good.val (x:=.func (.func f) (p.map a.eval) (q.map a.eval)) hh (by simp[execOp,ho,Instr.makeFunc]) ?_;simp only[RV];exact⟨_,_,rfl,by simpa using gJ ev hp,by simpa using gJ ev hq⟩
theorem HF(ho:o.op=.makeMap t none)(hh:aw g w H)(fD:f_ g ns):Good P a o g w ns (.map ns) (aR H ns (.map [])):=by
 have he:=bu.new hh fD (.map #[] 0) (.obj w.heap.size) rfl;have h2:aw (g.add ns (.obj w.heap.size)) (w.alloc (.map #[] 0)) (aR H ns (.map [])):=by refine aw.new hh fD _ _ _ rfl ?_;simp only[RB];exact⟨#[],0,bc _ _,rfl,by simp,by simp,rfl⟩
 refine⟨_,_,.value (.map (some w.heap.size)),?_,.inl ⟨_,rfl,?_⟩,h2,he,fun _ h=>h⟩
 ·simp[execOp,ho,Instr.makeMap]
 ·simp only[RV];refine⟨⟨rfl,.inr rfl⟩,fun x hx=>?_ ⟩;grind[G.add]
theorem HG{kt:TypeId}{x:Operand}{wr:Wr}(ho:o.op=.range t x)(ht:P.underlying t=some (.map kt el))(hx:ar x=some x')(h:bt ρ H ns (.range true x')=some (v,wr))(ev:Ev ρ a g w)(hh:aw g w H)(fD:f_ g ns):Good P a o g w ns v (bp H wr):=by
 have hv:=ev _ _ hx;simp only[bt,aaw]at h;split at h
 ·rename_i b eb;rw[eb]at hv;simp only[RV]at hv;split at h
  ·rename_i es hg;simp at h;obtain⟨rfl,rfl⟩:=h;obtain⟨xb,oZ⟩:=hh.back b _ hg;obtain⟨hd,y,hy,hr⟩:=hh.live b xb oZ;rw[hg]at hy;simp at hy;subst hy;obtain⟨aM,rfl,xq⟩:=hv.2 xb oZ;simp only[RB]at hr;obtain⟨bA,clock,h1,h2,h3,h4,h5⟩:=hr;have he:=bu.new hh fD (.mapIter (some aM) clock #[] clock) (.obj w.heap.size) rfl;have hbn:b≠ns:=by rintro rfl;exact fD hd
   have h2':aw (g.add ns (.obj w.heap.size)) (w.alloc (.mapIter (some aM) clock #[] clock)) (aR H ns (.bH b es.length [])):=by refine aw.new hh fD _ _ _ rfl ?_;simp only[RB];refine⟨aM,#[],by rw[←h2,←h5];exact bc _ _,rfl,.inl hd,fun x hx=>?_ ⟩;simp_all[G.add,aar]
   refine⟨_,_,.value (.pointer (some ⟨w.heap.size,0,none⟩)),?_,.inl ⟨_,rfl,?_⟩,h2',he,fun _ h=>h⟩
   ·simp[execOp,ho,Instr.range,run_underlying ht,xq,getObj,Sem.run,h1]
   ·simp only[RV];refine⟨⟨rfl,.inr rfl⟩,fun x hx=>?_ ⟩;grind[G.add]
  ·cases h
 ·cases h
theorem HH{x:Operand}{wr:Wr}(ho:o.op=.entry x)(hx:ar x=some x')(h:bt ρ H ns (.entry x')=some (v,wr))(ev:Ev ρ a g w)(hh:aw g w H):Good P a o g w ns v (bp H wr):=by
 have hv:=ev _ _ hx;simp only[bt]at h;split at h
 ·rename_i b m eb;rw[eb]at hv;simp only[RV]at hv;split at h
  ·rename_i m' n seen sh;split at h
   ·rename_i es Zk;cases hc:(Nat.beq m' m&&Nat.beq es.length n)with
     |false=>grind
     |true=>
      rw[hc]at h;simp at h;simp only[aas]at hc;obtain rfl:=aau hc.1;have hn:=aau hc.2;split at h
      ·rename_i i hi;split at h
       ·rename_i k u hk;simp at h;obtain⟨rfl,rfl⟩:=h;obtain⟨xb,oZ⟩:=hh.back b _ sh;obtain⟨_,y,hy,hr⟩:=hh.live b xb oZ;rw[sh]at hy;simp at hy;subst hy;obtain⟨aM,rfl,xq⟩:=hv.2 xb oZ;simp only[RB]at hr;obtain⟨mb,sa,k1,k2,k3,k4⟩:=hr;obtain⟨xm,OJ⟩:=hh.back m' _ Zk;obtain⟨_,y,hy,Ef⟩:=hh.live m' xm OJ;rw[Zk]at hy;simp at hy;subst hy;obtain rfl:=k4 xm OJ;simp only[RB]at Ef;obtain⟨bA,clock,m1,m2,m3,m4,m5⟩:=Ef;obtain⟨z,z1,z2,z3,z4⟩:=m3 i k u hk;have Zl:sa.back?=some i:=by grind
        have Zm:bA.find? (fun e=>e.born==i)=some z:=by have hb:=m4 i z z1;rw[Array.find?_eq_some_iff_getElem];obtain⟨cy,hz⟩:=aa6.1 z1;refine⟨by simp[hb],i,cy,hz,fun j hj=>?_ ⟩;have:=m4 j _ (Array.getElem?_eq_getElem (by omega));grind
        have K8:(clock !=n)=false:=by simp;omega
        refine Good.val (x:=.tuple #[z.key,z.val]) hh ?_ ?_;all_goals simp_all[execOp,Instr.entry,getObj,Sem.run,RV,aN]
       ·cases h
      ·cases h
   ·cases h
  ·cases h
 ·cases h
theorem Cy{d:TypeDesc}{x:Operand}(ho:o.op=.makeInterface t x)(ht:P.underlying t=some d)(hd:∀m,d≠ .interface m)(hx:ar x=some x')(ev:Ev ρ a g w)(hh:aw g w H):Good P a o g w ns (.iface t (ρ x')) H:=by refine Good.val (x:=.iface t (a.eval x)) hh ?_ (by simp only[RV];exact⟨_,rfl,ev _ _ hx⟩);cases d<;>simp_all[execOp,Instr.makeInterface,run_underlying ht]
def Eg(P:Program)(t:TypeId):kD->Prop| .str=>P.underlying t=some .string| .slice=>∃e,P.underlying t=some (.slice e)| .map=>∃k e,P.underlying t=some (.map k e)| .arr _=>False
theorem vV{u:V}{v:Value}{k:kD}{ty:TypeId}(h:jN H k u=some n)(hv:RV g w u v)(hh:aw g w H)(hk:Eg P t k):(Builtin.len_ #[t] ty #[v]).run P w=.ok (goInt n) w:=by
 cases k with
  |str=>
   simp only[Eg]at hk;cases u with
    |d x=>
     cases x with
      |str s=>simp only[jN,aar]at h;subst h;obtain⟨b,rfl,rfl⟩:=RV.str hv;simp[Builtin.len_,run_underlying hk]
      |_=>simp[jN]at h
    |_=>simp[jN]at h
  |slice=>
   obtain⟨e,he⟩:=hk;cases u with
    |d x=>
     cases x with
      |list es=>simp only[jN,aar]at h;subst h;simp only[RV,Rd]at hv;rcases hv with⟨rfl,rfl|⟨_,_,rfl⟩⟩|⟨aM,off,cap,sz,rfl,_⟩<;>simp[Builtin.len_,run_underlying he]
      |_=>simp[jN]at h
    |ak=>simp only[jN,aar]at h;subst h;simp only[RV]at hv;subst hv;simp[Builtin.len_,run_underlying he]
    |sl b hb off len sz=>
     simp only[jN]at h;cases hl:eI H b hb with
      |false=>grind
      |true=>
       rw[hl]at h;simp at h;subst h;rcases jz hl hh with⟨aM,cp,hg⟩|⟨rfl,hg⟩
       ·obtain⟨cap,rfl,_⟩:=RV.qf hv hg;simp[Builtin.len_,run_underlying he]
       ·obtain⟨_,rfl,_,rfl⟩:=RV.uC hv hg;simp[Builtin.len_,run_underlying he]
    |_=>simp[jN]at h
  |map=>
   obtain⟨kt,e,he⟩:=hk;cases u with
    |d x=>cases x<;>simp[jN]at h
    |kC=>simp only[jN,aar]at h;subst h;simp only[RV]at hv;subst hv;simp[Builtin.len_,run_underlying he]
    |map b=>
     simp only[jN]at h;split at h
     ·rename_i es hg;simp at h;subst h;obtain⟨x,hx⟩:=hh.back b _ hg;obtain⟨_,y,hy,hr⟩:=hh.live b x hx;rw[hg]at hy;simp at hy;subst hy;simp only[RV]at hv;obtain⟨aM,rfl,rfl⟩:=hv.2 x hx;simp only[RB]at hr;obtain⟨bA,clock,h1,h2,_⟩:=hr;simp[Builtin.len_,run_underlying he,getObj,Sem.run,h1,h2]
     ·cases h
    |_=>simp[jN]at h
  |arr=>exact hk.elim
theorem gn{sz:Nat}{u:V}{v:Value}{xs:List V}(h:bO H sz u=some xs)(hv:RV g w u v)(hh:aw g w H)(cH:0<sz):∃n vs,(Builtin.lenOf v).run P w=.ok n w/\(Builtin.firstCells sz n v).run P w=.ok vs.toArray w/\aN g w xs vs/\vs.length=n*sz:=by
 cases u with
  |ak=>simp_all[bO,aar,RV,Builtin.lenOf,Builtin.firstCells,aN]
  |d x=>
   cases x with
    |list es=>
     simp only[bO]at h;cases hc:es.all (fun e=>Nat.beq e.length sz)with
      |false=>grind
      |true=>
       rw[hc]at h;simp at h;subst h;rcases RV.list hv (vU hc)with⟨rfl,rfl|⟨_,_,rfl⟩⟩|⟨aM,off,cap,rfl,_,_,h4⟩
       ·simp_all[Builtin.lenOf,Builtin.firstCells,aN]
       ·simp_all[Builtin.lenOf,Builtin.firstCells,loadCells,loadCellsFrom,aN]
       ·have Bf:∀(es:List (List D))(off:Nat),dR w (cl g w) aM off sz es->cP w (cl g w) aM off es.flatten:=by
         intro es;induction es with
          |nil=>grind[cP]
          |cons e es ih=>
           intro off h;simp only[dR]at h;obtain⟨q1,q2,q3⟩:=h;have bp:∀(ds OK:List D)(q:Nat),cP w (cl g w) aM q ds->cP w (cl g w) aM (q+ds.length) OK->cP w (cl g w) aM q (ds++OK):=by intro ds OK;induction ds<;>grind[cP]
           grind
        obtain⟨vs,k1,k2⟩:=cP.KP (Bf es off h4);have hlen:vs.length=es.length*sz:=by
         have:=k1.length;simp only[aaE]at this;rw[←this];have aab:∀(es:List (List D)),es.all (fun e=>Nat.beq e.length sz)=true->es.flatten.length=es.length*sz:=by
          clear this k1 k2 vs hv h4 Bf hc;intro es hc;induction es with
           |nil=>simp
           |cons e es ih=>simp only[aaL,aas]at hc;simp only[acB,aao,aap];rw[ih hc.2,aau hc.1,abJ];omega
         grind
        have:=run_loadCells_list (P:=P) w ⟨aM,off,none⟩ vs (fun j x hj=>by grind[Addr.fF]);simp_all[Builtin.lenOf,Builtin.firstCells]
    |str s=>
     simp only[bO]at h;cases hq:Nat.beq sz 1 with
      |false=>grind
      |true=>
       rw[hq]at h;have:=aau hq;subst this;simp at h;subst h;obtain⟨b,rfl,rfl⟩:=RV.str hv;refine⟨b.size,b.data.toList.map (fun x=>.int .u8 x.toNat),by simp[Builtin.lenOf],?_,?_,by simp⟩
       ·have e:b.extract 0 b.size=b:=by simp_all
        simp only[Builtin.firstCells,e,Sem.run_pure];congr 1;grind
       ·generalize b.data.toList=l;induction l with
         |nil=>simp[aN]
         |cons x l ih=>simp;exact⟨RV.zp _ _,ih⟩
    |_=>simp[bO]at h
  |sl b hb off len uA=>
   simp only[bO]at h;cases hq:Nat.beq sz uA with
    |false=>grind
    |true=>
     have e1:=aau hq;subst e1;rw[hq]at h;simp at h;cases hg:aC H b with
      |none=>grind
      |some y=>
       cases y with
        |cells cs=>
         simp only[hg]at h;cases hc:(Nat.beq cs.length hb&&Nat.ble (off+len*sz) hb)with
          |false=>grind
          |true=>
           rw[hc]at h;simp at h;subst h;simp only[aas]at hc;have e2:=aax hc.2;obtain⟨aM,cp,c,e,h1,h2,h3,h4,h5,h6,h7⟩:=kJ hg hc.1 hh;obtain⟨cap,rfl,h8,h9⟩:=RV.qf hv h1;refine⟨len,((c.toList.take hb).drop off).take (len*sz),by simp[Builtin.lenOf],?_,(h7.drop off).take _,by simp;omega⟩;have hlen:(((c.toList.take hb).drop off).take (len*sz)).length=len*sz:=by simp;omega
           have:=run_loadCells_list (P:=P) w ⟨aM,off,none⟩ (((c.toList.take hb).drop off).take (len*sz)) (fun j x hj=>by grind[Addr.fF,World.cell?]);grind[Builtin.firstCells]
        |nil=>
         simp only[hg]at h;cases hc:Nat.beq len 0 with
          |false=>grind
          |true=>
           rw[hc]at h;simp at h;subst h;obtain⟨x,hx⟩:=hh.back b _ hg;obtain⟨_,y,hy,hr⟩:=hh.live b x hx;rw[hg]at hy;simp at hy;subst hy;cases x with
            |cells=>grind[RB]
            |obj=>grind[RB]
            |nil=>obtain⟨_,rfl,_,rfl⟩:=RV.uC hv hx;simp_all[Builtin.lenOf,Builtin.firstCells,aN]
        |_=>grind
  |_=>simp[bO]at h
end
end Fw
/-
  Operations, further: append.
-/
namespace Fw
open Go
section
variable {P:Program}{a:Act}{o:Oper}{g:G}{w:World}{ρ:aU->V}{H:an}{ns:Nat}
variable {t u e ty:TypeId}{i:TypeInfo}
theorem kK{base:Option Addr}{dH j3 n:Nat}{v:Value}{news:List Value}{w':World}(ht:P.underlying t=some (.slice e))(hu:(∃e2,P.underlying u=some (.slice e2))\/P.underlying u=some .string)(hi:P.info? e=some i)(hlen:(Builtin.lenOf v).run P w=.ok n w)(vW:(Builtin.firstCells i.size n v).run P w=.ok news.toArray w)(xw:dH+n<=j3)(tZ:∀a,base=some a->(storeCells (a.add (dH*i.size)) news).run P w=.ok () w')(hn:base=none->w'=w):(Builtin.append_ #[t,u] ty #[.slice base dH j3,v]).run P w=.ok (.slice base (dH+n) j3) w':=by
 cases base with
  |none=>have:=hn rfl;subst this;rcases hu with⟨e2,hu⟩|hu<;>simp[Builtin.append_,run_underlying ht,run_underlying hu,Go.sizeOf,typeInfo,hi,hlen,xw,vW]
  |some b=>have:=tZ b rfl;rcases hu with⟨e2,hu⟩|hu<;>simp[Builtin.append_,run_underlying ht,run_underlying hu,Go.sizeOf,typeInfo,hi,hlen,xw,vW,this]
theorem o4{z:Value}{base:Option Addr}{dH j3 n:Nat}{v:Value}{jP news:List Value}(ht:P.underlying t=some (.slice e))(hu:(∃e2,P.underlying u=some (.slice e2))\/P.underlying u=some .string)(hi:P.info? e=some i)(hz:i.zero=some z)(hlen:(Builtin.lenOf v).run P w=.ok n w)(vW:(Builtin.firstCells i.size n v).run P w.drew=.ok news.toArray w.drew)(xx:(Builtin.firstCells i.size dH (.slice base dH j3)).run P w.drew=.ok jP.toArray w.drew)(hg:j3<dH+n)(T1:((dH+n:Nat):Int)<=9223372036854775807)(K9:Builtin.nextslicecap (dH+n) j3*i.bytes<=281474976710656):(Builtin.append_ #[t,u] ty #[.slice base dH j3,v]).run P w=.ok (.slice (some ⟨w.heap.size,0,none⟩) (dH+n) (grownCap w (dH+n) j3 e)) (w.drew.alloc (.cells (jP.toArray++news.toArray++Builtin.zeroCells z.cells (grownCap w (dH+n) j3 e - (dH+n))) e)):=by
 have hn:¬(dH+n<=j3):=by omega
 have UV:¬(9223372036854775807<((dH:Int)+(n:Int))):=by omega
 have UW:¬(281474976710656<Builtin.nextslicecap (dH+n) j3*i.bytes):=by omega
 rcases hu with⟨e2,hu⟩|hu<;>simp[Builtin.append_,run_underlying ht,run_underlying hu,Go.sizeOf,typeInfo,zeroValue,hi,hz,hlen,hn,UV,UW,Question.forced,vW,xx,newRow,grownCap]<;>(grind)
theorem eB(g:G)(w:World):bu g w g w.drew:=⟨rfl,rfl,rfl,aaC _,fun _ h=>⟨h,rfl⟩,fun _ h=>h,fun _ _=>GB.step.refl _,rfl,rfl,fun _ _=>rfl⟩
theorem aw.drew(hh:aw g w H):aw g w.drew H:=hh.ext (eB g w) (fun _ _ _ _ _=>rfl)
theorem Eh{zs:List V}{x y:Operand}{x' y':aU}{xs:List V}{v:V}{wr:Wr}(ho:o.op=.call {callee:=.builtin .append,args:= #[x,y],argTypes:= #[t,u]})(T2:o.type=ty)(ht:P.underlying t=some (.slice e))(hu:(∃e2,P.underlying u=some (.slice e2))\/P.underlying u=some .string)(hi:P.info? e=some i)(hz:c_ P e=some zs)(h0:0<i.size)(Zi:zs.length=i.size)(hx:ar x=some x')(hy:ar y=some y')(hs:bO H i.size (ρ y')=some xs)(ha:dG H ns i.size i.bytes (ρ x') xs=some (v,wr))(ev:Ev ρ a g w)(hh:aw g w H)(fD:f_ g ns):Good P a o g w ns v (bp H wr):=by
 have cY:=ev _ _ hx;have e9:=ev _ _ hy;simp only[c_,aa9]at hz;obtain⟨z,⟨i',jZ,xp⟩,hm⟩:=hz;rw[hi]at jZ;simp only[aar]at jZ;subst jZ;have K_:z.cells.size=i.size:=by have:=bQ hm;grind
 obtain⟨n,news,f1,f2,f3,f4⟩:=gn (P:=P) hs e9 hh h0;obtain⟨n',eo,f1',UX,JA,Zn⟩:=gn (P:=P) hs (RV.ext (eB g w) _ _ e9) hh.drew h0;have UY:n'=n:=by
  have e1:=JA.length;have e2:=f3.length;have:n'*i.size=n*i.size:=by omega
  exact ab3 h0 this
 subst UY;have KZ:xs.length=n'*i.size:=by rw[f3.length,f4]
 have si:xs.length / i.size=n':=by simp_all
 unfold dG at ha;cases hb0:Nat.beq i.size 0 with
  |true=>grind
  |false=>
   rw[hb0]at ha;simp only[aaM]at ha;cases zr:Nat.beq (xs.length%i.size) 0 with
    |false=>grind
    |true=>
     rw[zr]at ha;simp only[abQ,aaM]at ha;cases j2:xs.all eL with
      |false=>grind
      |true=>
       rw[j2]at ha;simp only[abQ,aaM]at ha;have exec:∀(vx:Value)(r:Value)(w':World),a.eval x=vx->(Builtin.append_ #[t,u] ty #[vx,a.eval y]).run P w=.ok r w'->(execOp a.eval o).run P w=.ok (.value r) w':=by simp_all[execOp,resolve,invoke,builtin]
       have Bg:∀(La:Option Addr)(dH j3:Nat)(jP:List Value)(HI:List V),a.eval x=.slice La dH j3->HI.length=jP.length->HI.all eL=true->jP.length=dH*i.size->(Builtin.firstCells i.size dH (.slice La dH j3)).run P w.drew=.ok jP.toArray w.drew->j3<dH+n'->((HI.length+xs.length)*(i.bytes+1)<=cf)->∃w' cap,(execOp a.eval o).run P w=.ok (.value (.slice (some ⟨w.heap.size,0,none⟩) (dH+n') cap)) w'/\w'=w.drew.alloc (.cells (jP.toArray++eo.toArray++Builtin.zeroCells z.cells (cap - (dH+n'))) e)/\dH+n'<=cap/\(jP.toArray++eo.toArray++Builtin.zeroCells z.cells (cap - (dH+n'))).size=cap*i.size:=by
        intro La dH j3 jP HI e1 e2 e3 e4 e5 e6 e7;have hol:HI.length=dH*i.size:=by rw[e2,e4]
        have OM:(dH+n')*i.size=HI.length+xs.length:=by grind
        have hle:dH+n'<=HI.length+xs.length:=by rw[←OM];exact abv _ h0
        have hb:(dH+n')*i.bytes<=140737488355328:=by
         have e1:(dH+n')*i.bytes<=(HI.length+xs.length)*(i.bytes+1):=Nat.mul_le_mul hle (by omega);have e2:cf<=140737488355328:=by decide
         omega
        have T1:dH+n'<=140737488355328:=by
         have e1:dH+n'<=(HI.length+xs.length)*(i.bytes+1):=aby hle (abv _ (by omega));have e2:cf<=140737488355328:=by decide
         omega
        have hr:=o4 (ty:=ty) ht hu hi xp f1 UX e5 e6 (by omega) (growslice_fits e6 hb);refine⟨_,_,exec _ _ _ e1 hr,rfl,grownCap_ge _ _ _ _,?_⟩;have ON:=grownCap_ge w (dH+n') j3 e;simp only[Array.size_append,List.size_toArray,size_zeroCells,K_,e4,Zn,←abJ];grind
       split at ha
       ·rename_i ex;rw[ex]at cY;simp only[RV]at cY;split at ha
        ·simp at ha;obtain⟨rfl,rfl⟩:=ha;have N3:n'=0:=by
          have Zo:n'*i.size=0:=by grind
          simp_all
         subst N3;have hr:=kK (ty:=ty) (base:=none) (dH:=0) (j3:=0) ht hu hi f1 f2 (aaC _) (fun a h=>by cases h) (fun _=>rfl);exact Good.val (x:=.slice none 0 0) hh (exec _ _ _ cY hr) (by simp only[RV])
        ·rename_i hO;cases hc:Nat.ble (xs.length*(i.bytes+1)) cf with
          |false=>grind
          |true=>
           rw[hc]at ha;simp at ha;obtain⟨rfl,rfl⟩:=ha;have kL:0<n':=by grind
           obtain⟨w',cap,k1,rfl,k3,k4⟩:=Bg none 0 0 [] [] cY rfl rfl (by simp) (by simp[Builtin.firstCells]) (by omega) (by simp_all);have he:=bu.new (w:=w.drew) hh.drew fD (.cells (([]:List Value).toArray++eo.toArray++Builtin.zeroCells z.cells (cap - (0+n'))) e) (.cells w.heap.size (cap*i.size) xs.length) rfl;refine⟨_,_,_,k1,.inl ⟨_,rfl,?_⟩,aw.new hh.drew fD _ _ _ rfl ?_,(eB g w).trans he,fun _ h=>h⟩
           ·rw[si,aaK];refine RV.xu (cp:=cap*i.size) (.inr rfl) (by simp[G.add]) (by omega) (by omega)
           ·simp only[RB];refine⟨trivial,j2,by grind,_,e,bc _ _,by grind,?_ ⟩;have:((([]:List Value).toArray++eo.toArray++Builtin.zeroCells z.cells (cap - (0+n'))).toList).take xs.length=eo:=by grind
            rw[this];exact aN.ext he _ _ JA
       ·rename_i b hb off len uA ex;cases hq:Nat.beq i.size uA with
         |false=>grind
         |true=>
          have e1:=aau hq;rw[hq]at ha;simp only[aaw]at ha;rw[ex]at cY;rw[←e1]at cY;split at ha
          ·rename_i cs hg;cases hc:(Nat.beq cs.length hb&&Nat.beq off 0&&Nat.beq (len*i.size) hb&&Nat.ble ((hb+xs.length)*(i.bytes+1)) cf)with
            |false=>grind
            |true=>
             rw[hc]at ha;simp only[aaw,aar,aav]at ha;obtain⟨rfl,rfl⟩:=ha;simp only[aas]at hc;have e2:=aau hc.1.1.2;subst e2;have e3:=aau hc.1.2;obtain⟨aM,cp,c,ce,Lb,h2,h3,h4,h5,h6,h7⟩:=kJ hg hc.1.1.1 hh;obtain⟨cap,h8,h9,h10⟩:=RV.qf cY Lb;have na:=RV.cd cY;by_cases xw:len+n'<=cap
             ·have K9:hb+xs.length<=cp:=by have:(len+n')*i.size<=cap*i.size:=aa0 _ xw;grind
              have tZ:=run_storeCells_at P aM (len*i.size) ce news 0 c w h5 (by grind) (aN.one j2 f3);simp only[abX]at tZ;rw[←jy _ _ _ (by grind),e3]at tZ;have hr:=kK (ty:=ty) (base:=some ⟨aM,0,none⟩) ht hu hi f1 f2 xw (fun q hq=>by simp at hq;subst hq;rw[Addr.fF,aaK,e3];exact tZ) (fun h=>by cases h);have hw:∀j,j≠aM->(w.setRow aM (putCells c.toList hb news).toArray).heap[j]? =w.heap[j]? :=fun j hj=>setRow_other w aM j _ hj
              have Bh:GB.step (some (.cells aM cp hb)) (some (.cells aM cp (hb+xs.length))):=by
               by_cases hz:xs.length=0
               ·left;grind
               ·right;grind
              have JB:∀j,j<w.heap.size->some j≠some aM->(w.setRow aM (putCells c.toList hb news).toArray).heap[j]? =w.heap[j]? :=fun j _ hj=>hw j (fun e=>hj (by rw[e]))
              have he:bu g w (g.set b (.cells aM cp (hb+xs.length))) (w.setRow aM (putCells c.toList hb news).toArray):=bu.grow (hh.KU Lb rfl) Lb rfl Bh (.inl rfl) rfl rfl rfl (by simp) JB;refine⟨_,_,_,exec _ _ _ h8 hr,.inl ⟨_,rfl,?_⟩,aw.grow (x':=.cells aM cp (hb+xs.length)) hh _ Lb rfl (.inl rfl) he JB ?_,he,fun _ h=>.inl h⟩
              ·rw[si];refine RV.xu (cp:=cp) na (by simp[G.set]) (by omega) (by omega)
              ·simp only[RB];have vR:∀(l:List Value)(i:Nat)(vs:List Value),(putCells l i vs).length=l.length:=by intro l i vs;induction vs generalizing l i<;>grind[putCells]
               refine⟨by simp;omega,by grind,by simp;omega,_,ce,setRow_heap w aM c _ ce _ h5,by grind,?_ ⟩;have e5:(putCells c.toList hb news).take (cs++xs).length=c.toList.take hb++news:=by rw[jy _ _ _ (by grind)];grind
               rw[List.toList_toArray,e5];exact aN.append (aN.ext he _ _ h7) (aN.ext he _ _ f3)
             ·have xx:(Builtin.firstCells i.size len (.slice (some ⟨aM,0,none⟩) len cap)).run P w.drew=.ok (c.toList.take hb).toArray w.drew:=by
               have hl:(c.toList.take hb).length=len*i.size:=by simp;omega
               have:=run_loadCells_list (P:=P) w.drew ⟨aM,0,none⟩ (c.toList.take hb) (fun j x hj=>by
                rw[Addr.fF,aaK];rw[aa5]at hj;split at hj
                ·have h5':w.drew.heap[aM]? =some (.cells c ce (0,0)):=h5;grind[World.cell?]
                ·cases hj)
               grind[Builtin.firstCells]
              obtain⟨w',Cz,k1,rfl,k3,k4⟩:=Bg (some ⟨aM,0,none⟩) len cap (c.toList.take hb) cs h8 h7.length h2 (by simp;omega) xx (by omega) (by simp_all);have Bh:GB.step (some (.cells aM cp hb)) (some (.cells w.heap.size (Cz*i.size) (hb+xs.length))):=by
               right;refine⟨_,_,_,rfl,?_⟩;have:0<xs.length:=by rw[KZ];exact Nat.mul_pos (by omega) h0
               omega
              have JB:∀j,j<w.drew.heap.size->some j≠some aM->(w.drew.alloc (.cells ((c.toList.take hb).toArray++eo.toArray++Builtin.zeroCells z.cells (Cz - (len+n'))) e)).heap[j]? =w.drew.heap[j]? :=fun j hj _=>cj _ _ hj
              have he:bu g w.drew (g.set b (.cells w.heap.size (Cz*i.size) (hb+xs.length))) (w.drew.alloc (.cells ((c.toList.take hb).toArray++eo.toArray++Builtin.zeroCells z.cells (Cz - (len+n'))) e)):=bu.grow (hh.drew.KU Lb rfl) Lb rfl Bh (.inr ⟨_,rfl,aaC _⟩) rfl rfl rfl (by simp) JB;refine⟨_,_,_,k1,.inl ⟨_,rfl,?_⟩,aw.grow hh.drew _ Lb rfl (.inr ⟨_,rfl,aaC _⟩) he JB ?_,(eB g w).trans he,fun _ h=>.inl h⟩
              ·rw[si];refine RV.xu (cp:=Cz*i.size) na (by simp[G.set]) (by omega) (by omega)
              ·simp only[RB];refine⟨by simp;omega,by grind,?_,_,e,bc _ _,by grind,?_ ⟩
               ·grind
               ·have e5:((c.toList.take hb).toArray++eo.toArray++Builtin.zeroCells z.cells (Cz - (len+n'))).toList.take (cs++xs).length=c.toList.take hb++eo:=by grind
                rw[e5];exact aN.append (aN.ext ((eB g w).trans he) _ _ h7) (aN.ext he _ _ JA)
          ·rename_i hg;cases hc:(Nat.beq hb 0&&Nat.beq off 0&&Nat.beq len 0)with
            |false=>grind
            |true=>
             rw[hc]at ha;simp at ha;simp only[aas]at hc;have q1:=aau hc.1.1;have q2:=aau hc.1.2;have q3:=aau hc.2;subst q1;subst q2;subst q3;obtain⟨xb,oZ⟩:=hh.back b _ hg;obtain⟨_,yb,Lc,hr⟩:=hh.live b xb oZ;rw[hg]at Lc;simp at Lc;subst Lc;cases xb with
              |cells=>grind[RB]
              |obj=>grind[RB]
              |nil=>
               have na:=RV.cd cY;obtain⟨_,_,_,Zp⟩:=RV.uC cY oZ;split at ha
               ·simp at ha;obtain⟨rfl,rfl⟩:=ha;have N3:n'=0:=by
                 have Zo:n'*i.size=0:=by grind
                 rcases ack.1 Zo with h|h<;>omega
                subst N3;have Zq:=kK (ty:=ty) (base:=none) (dH:=0) (j3:=0) ht hu hi f1 f2 (aaC _) (fun a h=>by cases h) (fun _=>rfl);refine Good.val (x:=.slice none 0 0) hh (exec _ _ _ Zp Zq) ?_;grind
               ·rename_i hO;cases CA:Nat.ble (xs.length*(i.bytes+1)) cf with
                 |false=>grind
                 |true=>
                  rw[CA]at ha;simp at ha;obtain⟨rfl,rfl⟩:=ha;have kL:0<n':=by grind
                  obtain⟨w',cap,k1,rfl,k3,k4⟩:=Bg none 0 0 [] [] Zp rfl rfl (by simp) (by simp[Builtin.firstCells]) (by omega) (by simp_all);have OO:0<xs.length:=by grind
                  have JB:∀j,j<w.drew.heap.size->some j≠none->(w.drew.alloc (.cells (([]:List Value).toArray++eo.toArray++Builtin.zeroCells z.cells (cap - (0+n'))) e)).heap[j]? =w.drew.heap[j]? :=fun j hj _=>cj _ _ hj
                  have he:bu g w.drew (g.set b (.cells w.heap.size (cap*i.size) xs.length)) (w.drew.alloc (.cells (([]:List Value).toArray++eo.toArray++Builtin.zeroCells z.cells (cap - (0+n'))) e)):=bu.grow (hh.drew.KU oZ rfl) oZ rfl (.inr ⟨_,_,_,rfl,OO⟩) (.inr ⟨_,rfl,aaC _⟩) rfl rfl rfl (by simp) JB;refine⟨_,_,_,k1,.inl ⟨_,rfl,?_⟩,aw.grow hh.drew _ oZ rfl (.inr ⟨_,rfl,aaC _⟩) he JB ?_,(eB g w).trans he,fun _ h=>.inl h⟩
                  ·rw[si,aaK];refine RV.xu (cp:=cap*i.size) na (by simp[G.set]) (by omega) (by omega)
                  ·simp only[RB];refine⟨trivial,j2,by grind,_,e,bc _ _,by grind,?_ ⟩;have:((([]:List Value).toArray++eo.toArray++Builtin.zeroCells z.cells (cap - (0+n'))).toList).take xs.length=eo:=by grind
                   rw[this];exact aN.ext he _ _ JA
          ·cases ha
       ·rename_i es ex;cases hc:(es.all (fun e=>Nat.beq e.length i.size)&& !xs.isEmpty&&Nat.ble ((es.flatten.length+xs.length)*(i.bytes+1)) cf)with
         |false=>grind
         |true=>
          rw[hc]at ha;simp only[aaw,aar,aav]at ha;obtain⟨rfl,rfl⟩:=ha;simp only[aas]at hc;rw[ex]at cY;simp only[RV]at cY;obtain⟨hd,a0,hv⟩:=cY;have OP:RV g w (.d (.list es)) (a.eval x):=by grind[RV]
          have hsc:bO H i.size (.d (.list es))=some (es.flatten.map .d):=by simp only[bO,hc.1.1,aaw]
          obtain⟨m,jP,q1,q2,q3,q4⟩:=gn (P:=P) hsc (RV.ext (eB g w) _ _ OP) hh.drew h0;rw[hv]at q1 q2;have hm:m=es.length:=by simp_all[Builtin.lenOf]
          subst hm;have hlf:es.flatten.length=es.length*i.size:=by have:=q3.length;grind
          have kL:0<n':=by rcases Nat.eq_zero_or_pos n' with h|h;all_goals simp_all
          obtain⟨w',cap,k1,rfl,k3,k4⟩:=Bg a0 es.length es.length jP (es.flatten.map .d) hv q3.length (by simp[eL]) q4 q2 (by omega) (by rw[aaE];simp_all);have he:=bu.new (w:=w.drew) hh.drew fD (.cells (jP.toArray++eo.toArray++Builtin.zeroCells z.cells (cap - (es.length+n'))) e) (.cells w.heap.size (cap*i.size) (es.flatten.length+xs.length)) rfl;have OQ:(es.length+n')*i.size<=cap*i.size:=aa0 _ k3;rw[abJ]at OQ;refine⟨_,_,_,k1,.inl ⟨_,rfl,?_⟩,aw.new hh.drew fD _ _ _ rfl ?_,(eB g w).trans he,fun _ h=>h⟩
          ·rw[si];refine RV.xu (cp:=cap*i.size) (.inr rfl) (by simp[G.add]) (by omega) (by omega)
          ·have hL:(es.flatten.map V.d++xs).length=es.flatten.length+xs.length:=by grind
           simp only[RB,hL];refine⟨trivial,by simp_all[List.all_append,eL],by omega,_,e,bc _ _,by grind,?_ ⟩;have e5:(jP.toArray++eo.toArray++Builtin.zeroCells z.cells (cap - (es.length+n'))).toList.take (es.flatten.length+xs.length)=jP++eo:=by grind
           rw[e5];exact aN.append (aN.ext he _ _ q3) (aN.ext he _ _ JA)
       ·cases ha
end
end Fw
/-
  Operations, further: maps, min and max; all together.
-/
namespace Fw
open Go
section
variable {P:Program}{a:Act}{o:Oper}{g:G}{w:World}{ρ:aU->V}{H:an}{ns:Nat}
variable {kk:dj}{t:TypeId}{v:V}
def gf(P:Program)(t:TypeId):dj->Prop| .int=>∃k,P.underlying t=some (.int k)| .str=>P.underlying t=some .string| .bool=>P.underlying t=some .bool
theorem o5(h:gf P t kk)(e:Bool)(v:Value):(Instr.checkKey e 10000 t v).run P w=.ok () w:=by
 have key:∀n,(Instr.checkKey e (n+1) t v).run P w=.ok () w:=by
  intro n;cases kk with
   |int=>obtain⟨k,hk⟩:=h;simp[Instr.checkKey,run_underlying hk]
   |str=>simp only[gf]at h;simp[Instr.checkKey,run_underlying h]
   |bool=>simp only[gf]at h;simp[Instr.checkKey,run_underlying h]
 grind
theorem zH(s t:ByteArray):(s==t)=Fw.ah s.data.toList t.data.toList:=by
 have e:(s==t)=(s.data==t.data):=by cases s;cases t;rfl
 rw[e,cr];by_cases h:s.data=t.data;all_goals simp_all
theorem zI{d:TypeDesc}{k x:D}{kv xv:Value}{im:Nat->Prop}(ht:gf P t kk)(hd:P.underlying t=some d)(hk:fZ kk k=true)(h1:Rd w im k kv)(h2:Rd w im x xv){b:Bool}(h:A8 k x=some b):Instr.sameNow d kv xv=some b:=by
 cases kk with
  |int=>
   obtain⟨ik,Ei⟩:=ht;rw[hd]at Ei;simp at Ei;subst Ei;cases k with
    |int k1 n1=>cases x<;>grind[Rd,A8,Instr.sameNow]
    |_=>grind[fZ]
  |str=>
   simp only[gf]at ht;rw[hd]at ht;simp at ht;subst ht;cases k with
    |str k1=>cases x<;>grind[Rd,A8,Option.some.injEq,Instr.sameNow,zH]
    |_=>grind[fZ]
  |bool=>
   simp only[gf]at ht;rw[hd]at ht;simp at ht;subst ht;cases k with
    |bool k1=>cases x<;>grind[Rd,A8,Instr.sameNow]
    |_=>grind[fZ]
def RM(g:G)(w:World):List (D×V)->List MapEntry->Prop|[],[]=>True|(k,v)::es,x::xs=>(Rd w (cl g w) k x.key/\RV g w v x.val)/\RM g w es xs|_,_=>False
theorem lP{kk:dj}{t:TypeId}{d:TypeDesc}{k:D}{kv:Value}(ht:gf P t kk)(hd:P.underlying t=some d)(hk:fZ kk k=true)(h1:Rd w (cl g w) k kv):∀{es:List (D×V)}{xs:List MapEntry}{i:Nat}{r:Option (Nat×V)},RM g w es xs->qM k es i=some r->(r=none/\Instr.findNow d kv xs i=some none)\/∃j v x,r=some (i+j,v)/\xs[j]? =some x/\Instr.findNow d kv xs i=some (some (i+j,x.val))/\RV g w v x.val/\Instr.sameNow d kv x.key=some true/\j<es.length
 |[],[],i,r,_,h=>by simp[qM]at h;subst h;exact .inl ⟨rfl,rfl⟩
 |(k2,v2)::es,x::xs,i,r,hm,h=>by
  simp only[RM]at hm;simp only[qM]at h;cases hb:A8 k k2 with
   |none=>grind
   |some b=>
    have hs:=zI ht hd hk h1 hm.1.1 hb;cases b with
     |true=>simp[hb]at h;subst h;exact .inr ⟨0,v2,x,rfl,rfl,by simp[Instr.findNow,hs],hm.1.2,hs,by simp⟩
     |false=>
      simp only[hb]at h;rcases lP ht hd hk h1 hm.2 h with⟨e1,e2⟩|⟨j,v,y,e1,e2,e3,e4,e5,e6⟩
      ·grind[Instr.findNow]
      ·refine .inr ⟨j+1,v,y,by grind,by grind,?_,e4,e5,by simp;omega⟩;grind[Instr.findNow]
 |[],_::_,_,_,h,_=>by grind[RM]
 |_::_,[],_,_,h,_=>by grind[RM]
theorem RM.of{es:List (D×V)}{bA:Array MapEntry}(hs:bA.size=es.length)(h:∀(i:Nat)(k:D)(v:V),es[i]? =some (k,v)->∃x,bA[i]? =some x/\Rd w (cl g w) k x.key/\RV g w v x.val):RM g w es bA.toList:=by
 have hl:es.length=bA.toList.length:=by simp[hs]
 have h':∀(i:Nat)(k:D)(v:V),es[i]? =some (k,v)->∃x,bA.toList[i]? =some x/\Rd w (cl g w) k x.key/\RV g w v x.val:=by grind
 clear h hs;generalize bA.toList=xs at*;induction es generalizing xs with
  |nil=>grind[RM]
  |cons e es ih=>
   obtain⟨k,v⟩:=e;cases xs with
    |nil=>simp at hl
    |cons x xs=>simp only[RM];obtain⟨y,hy,h1,h2⟩:=h' 0 k v rfl;simp at hy;subst hy;exact⟨⟨h1,h2⟩,ih xs (by grind) (fun i k v hi=>h' (i+1) k v (by grind))⟩
theorem sj{kt el:TypeId}{m k:Operand}{m' k':aU}{z:V}{ok:Bool}(ho:o.op=.lookup t m k ok)(ht:P.underlying t=some (.map kt el))(o6:gf P kt kk)(hz:D3 P el=some z)(hm:ar m=some m')(hk:ar k=some k')(h:bt ρ H ns (.lookup kk z ok m' k')=some (v,none))(ev:Ev ρ a g w)(hh:aw g w H):Good P a o g w ns v H:=by
 have Ld:=ev _ _ hm;have Ej:=ev _ _ hk;simp only[D3,aa9]at hz;obtain⟨zv,⟨i,hi,Zr⟩,xp⟩:=hz;have UZ:RV g w z zv:=D6 xp;simp only[bt]at h;split at h
 ·rename_i kd ek;cases Ek:fZ kk kd with
   |false=>grind
   |true=>
    rw[Ek]at h;simp at h;split at h
    ·rename_i es Le;rw[ek]at Ej;simp only[RV]at Ej;have hd:∃d,P.underlying kt=some d:=by
      cases kk with
       |int=>obtain⟨q,hq⟩:=o6;grind
       |str=>exact⟨_,o6⟩
       |bool=>exact⟨_,o6⟩
     obtain⟨d,hd⟩:=hd;have U0:∃xs:Array MapEntry,RM g w es xs.toList/\((a.eval m=.map none/\xs= #[])\/∃r clock,a.eval m=.map (some r)/\w.heap[r]? =some (.map xs clock)):=by
      cases hmv:ρ m' with
       |kC=>grind[RV,qN,Option.some.injEq,RM]
       |map b=>
        rw[hmv]at Ld Le;simp only[qN]at Le;split at Le
        ·rename_i OK hg;simp at Le;subst Le;obtain⟨x,hx⟩:=hh.back b _ hg;obtain⟨_,y,hy,hr⟩:=hh.live b x hx;rw[hg]at hy;simp at hy;subst hy;simp only[RV]at Ld;obtain⟨aM,rfl,HJ⟩:=Ld.2 x hx;simp only[RB]at hr;obtain⟨bA,clock,h1,h2,h3,h4,h5⟩:=hr;exact⟨bA,RM.of h2 (fun i k v hi=>by grind),.inr ⟨aM,clock,HJ,h1⟩⟩
        grind
       |_=>grind[qN]
     obtain⟨xs,Ef,D8⟩:=U0;have K8:=fun b=>o5 (P:=P) (w:=w) o6 b (a.eval k)
     split at h
     ·rename_i j u hf;simp at h;rcases lP o6 hd Ek Ej Ef hf with⟨e1,_⟩|⟨j',v',x,e1,e2,e3,e4,_⟩
      ·cases e1
      ·simp at e1;obtain⟨_,rfl⟩:=e1;refine Good.val (x:=if ok then .tuple #[x.val,.bool true]else x.val) hh ?_ ?_
       ·rcases D8 with⟨q1,rfl⟩|⟨r,clock,q1,q2⟩
        ·grind
        ·simp[execOp,ho,Instr.lookup,run_underlying ht,q1,getObj,Sem.run,q2,K8,Instr.findKey,run_underlying hd,e3]
       ·rw[←h];cases ok with
         |true=>simp;exact⟨_,rfl,by simp;exact⟨e4,RV.A_ _,trivial⟩⟩
         |false=>grind
     ·rename_i hf;simp at h;rcases lP o6 hd Ek Ej Ef hf with⟨_,e3⟩|⟨j',v',x,e1,_⟩
      ·refine Good.val (x:=if ok then .tuple #[zv,.bool false]else zv) hh ?_ ?_
       ·rcases D8 with⟨q1,rfl⟩|⟨r,clock,q1,q2⟩
        ·have U1:=K8 true;simp[execOp,ho,Instr.lookup,run_underlying ht,q1,U1,Instr.findKey,run_underlying hd,Instr.findNow,oY hi Zr]
        ·simp[execOp,ho,Instr.lookup,run_underlying ht,q1,getObj,Sem.run,q2,K8,Instr.findKey,run_underlying hd,e3,oY hi Zr]
       ·rw[←h];cases ok with
         |true=>simp;exact⟨_,rfl,by simp;exact⟨UZ,RV.A_ _,trivial⟩⟩
         |false=>grind
      ·cases e1
     ·cases h
    ·cases h
 ·cases h
theorem nr(w:World)(k:Nat)(x:Obj)(h:k<w.heap.size):({w with heap:=w.heap.setIfInBounds k x}:World).heap[k]? =some x:=by simp[h]
theorem lQ(w:World)(k j:Nat)(x:Obj)(h:j≠k):({w with heap:=w.heap.setIfInBounds k x}:World).heap[j]? =w.heap[j]? :=by grind
theorem xy{d:TypeDesc}{kv xv:Value}(ht:gf P t kk)(hd:P.underlying t=some d)(h:Instr.sameNow d kv xv=some true):Instr.sameBits 10000 xv kv=true:=by
 have Lf:(∃q,d=.int q)\/d=.string\/d=.bool:=by cases kk<;>grind[Option.some.injEq,gf]
 rcases Lf with⟨q,rfl⟩|rfl|rfl
 ·cases kv<;>cases xv<;>simp[Instr.sameNow]at h;grind[Instr.sameBits]
 ·cases kv<;>cases xv<;>simp[Instr.sameNow]at h;grind[zH,cr,Instr.sameBits]
 ·cases kv<;>cases xv<;>simp[Instr.sameNow]at h;grind[Instr.sameBits]
theorem sk{kt el:TypeId}{m k x:Operand}{m' k' x':aU}{wr:Wr}(ho:o.op=.mapUpdate t m k x)(ht:P.underlying t=some (.map kt el))(o6:gf P kt kk)(hm:ar m=some m')(hk:ar k=some k')(hx:ar x=some x')(h:bt ρ H ns (.iP kk m' k' x')=some (v,wr))(ev:Ev ρ a g w)(hh:aw g w H):Good P a o g w ns v (bp H wr):=by
 have Ld:=ev _ _ hm;have Ej:=ev _ _ hk;have cY:=ev _ _ hx;simp only[bt]at h;split at h
 ·rename_i b kd em ek;cases Ek:fZ kk kd with
   |false=>grind
   |true=>
    rw[Ek]at h;simp at h;split at h
    ·rename_i es hg;rw[ek]at Ej;rw[em]at Ld;simp only[RV]at Ej Ld;have hd:∃d,P.underlying kt=some d:=by
      cases kk with
       |int=>obtain⟨q,hq⟩:=o6;grind
       |str=>exact⟨_,o6⟩
       |bool=>exact⟨_,o6⟩
     obtain⟨d,hd⟩:=hd;obtain⟨xb,oZ⟩:=hh.back b _ hg;obtain⟨_,y,hy,hr⟩:=hh.live b xb oZ;rw[hg]at hy;simp at hy;subst hy;obtain⟨aM,rfl,HJ⟩:=Ld.2 xb oZ;simp only[RB]at hr;obtain⟨bA,clock,h1,h2,h3,h4,h5⟩:=hr;have cy:aM<w.heap.size:=(aa6.1 h1).1;have Ef:RM g w es bA.toList:=RM.of h2 (fun i k v hi=>by grind);have K8:=fun b=>o5 (P:=P) (w:=w) o6 b (a.eval k)
     have ru:∀o',bu g w g {w with heap:=w.heap.setIfInBounds aM o'}:=fun o'=>bu.write oZ rfl (hh.qO oZ rfl) rfl rfl rfl (by simp) (fun j hj=>lQ w aM j o' hj)
     split at h
     ·rename_i j u hf;simp at h;obtain⟨rfl,rfl⟩:=h;rcases lP o6 hd Ek Ej Ef hf with⟨e1,_⟩|⟨j',v',x0,e1,e2,e3,e4,e5,e6⟩
      ·cases e1
      ·simp at e1;obtain⟨rfl,rfl⟩:=e1;rw[aaK]at e3;have e2':bA[j]? =some x0:=by grind
       have hsb:=xy o6 hd e5;refine⟨g,_,.skip,?_,.inr ⟨rfl,rfl⟩,?_,ru (.map (bA.modify j fun e=>{e with key:=a.eval k,val:=a.eval x}) clock),fun _ h=>.inl h⟩
       ·simp[execOp,ho,Instr.mapUpdate,run_underlying ht,HJ,getObj,setObj,Sem.run,h1,K8,Instr.findKey,run_underlying hd,e3,e2',Instr.keyThatStays,hsb]
       ·refine aw.write hh _ oZ rfl (ru _) (fun q hq=>lQ w aM q _ hq) ?_;simp only[RB];refine⟨_,clock,nr w aM _ cy,by simp[h2],fun i k2 v2 hi=>?_,?_ ⟩
        ·by_cases N4:i=j
         ·subst N4;rw[List.getElem?_set_self (by omega)]at hi;simp at hi;obtain⟨rfl,rfl⟩:=hi;refine⟨{x0 with key:=a.eval k,val:=a.eval x},by grind,?_,Rd.keeps (ru _).keeps _ _ Ej,RV.ext (ru _) _ _ cY⟩;grind
         ·rw[List.getElem?_set_ne (by omega)]at hi;obtain⟨z,z1,z2,z3,z4⟩:=h3 i k2 v2 hi;exact⟨z,by grind,z2,Rd.keeps (ru _).keeps _ _ z3,RV.ext (ru _) _ _ z4⟩
        grind
     ·rename_i hf;simp at h;obtain⟨rfl,rfl⟩:=h;rcases lP o6 hd Ek Ej Ef hf with⟨_,e3⟩|⟨j',v',x0,e1,_⟩
      ·refine⟨g,_,.skip,?_,.inr ⟨rfl,rfl⟩,?_,ru (.map (bA.push {key:=a.eval k,val:=a.eval x,born:=clock}) (clock+1)),fun _ h=>.inl h⟩
       ·simp[execOp,ho,Instr.mapUpdate,run_underlying ht,HJ,getObj,setObj,Sem.run,h1,K8,Instr.findKey,run_underlying hd,e3]
       ·refine aw.write hh _ oZ rfl (ru _) (fun q hq=>lQ w aM q _ hq) ?_;simp only[RB];refine⟨_,clock+1,nr w aM _ cy,by simp[h2],fun i k2 v2 hi=>?_,?_ ⟩
        ·by_cases N4:i<es.length
         ·rw[abr N4]at hi;obtain⟨z,z1,z2,z3,z4⟩:=h3 i k2 v2 hi;have Bi:i<bA.size:=by omega
          exact⟨z,by grind,by omega,Rd.keeps (ru _).keeps _ _ z3,RV.ext (ru _) _ _ z4⟩
         ·have Zs:i=es.length:=by grind
          subst Zs;rw[abc (aaC _)]at hi;simp at hi;obtain⟨rfl,rfl⟩:=hi;exact⟨{key:=a.eval k,val:=a.eval x,born:=clock},by grind,by simp,Rd.keeps (ru _).keeps _ _ Ej,RV.ext (ru _) _ _ cY⟩
        grind
      ·cases e1
     ·cases h
    ·cases h
 ·cases h
theorem uD{isMax:Bool}{k:IntKind}:∀{l:List V}{xs:List Value}{n r:Int},aN g w l xs->nQ isMax n l k=some r->(xs.foldlM (if isMax then Builtin.max2 else Builtin.min2) (.int k n)).run P w=.ok (.int k r) w
 |[],[],n,r,_,h=>by simp_all[nQ]
 |v::l,x::xs,n,r,hv,h=>by
  simp only[aN]at hv;cases v with
   |d y=>
    cases y with
     |int k2 m=>
      simp only[nQ]at h;split at h
      ·rename_i hk;subst hk;have hx:=RV.int hv.1;subst hx;have ih:=uD hv.2 h;simp;cases isMax with
        |true=>simp_all[Builtin.max2,Sem.run_pure,Result.andThen_ok]
        |false=>simp_all[abR,Builtin.min2,Sem.run_pure,Result.andThen_ok]
      ·cases h
     |_=>simp[nQ]at h
   |_=>simp[nQ]at h
 |[],_::_,_,_,h,_=>by grind[aN]
 |_::_,[],_,_,h,_=>by grind[aN]
theorem xz{isMax:Bool}{args:Array Operand}{ts:Array TypeId}{l:List aU}(ho:o.op=.call {callee:=.builtin (if isMax then .max else .min),args:=args,argTypes:=ts})(hl:bS ar args.toList=some l)(h:bt ρ H ns (.nP isMax l)=some (v,none))(ev:Ev ρ a g w)(hh:aw g w H):Good P a o g w ns v H:=by
 have cX:=gJ ev hl;simp only[bt]at h;split at h
 ·rename_i k n zJ e;simp at h;obtain⟨r,hr,rfl⟩:=h;rw[e]at cX;cases hx:args.toList.map a.eval with
   |nil=>grind[aN]
   |cons x xs=>
    rw[hx]at cX;simp only[aN]at cX;have N5:=RV.int cX.1;subst N5;have hf:=uD (P:=P) cX.2 hr;have gV:(args.map a.eval).toList=.int k n::xs:=by simp_all
    refine Good.val hh ?_ (RV.zp k r);cases isMax with
     |true=>simp_all[Builtin.max_,execOp,resolve,invoke,builtin]
     |false=>simp_all[Builtin.min_,execOp,resolve,invoke,builtin]
 ·cases h
end
end Fw
/-
  Operations, further: structs held against structs, the bytes of a string, make.
-/
namespace Fw
open Go
section
variable {P:Program}{a:Act}{o:Oper}{g:G}{w:World}{ρ:aU->V}{H:an}{ns:Nat}
variable {t e:TypeId}{x':aU}{k:dj}{w:World}{n:Nat}{v:V}{wr:Wr}
theorem zK(h:vN P t=some k):gf P t k:=by
 unfold vN at h;split at h<;>simp only[aar,reduceCtorEq]at h<;>subst h
 ·rename_i q hq;exact⟨q,hq⟩
 ·rename_i hq;exact hq
 ·rename_i hq;exact hq
theorem ub{x y:D}{vx vy:Value}{im:Nat->Prop}{b:Bool}(ht:gf P t k)(hk:fZ k x=true)(h:A8 x y=some b)(h1:Rd w im x vx)(h2:Rd w im y vy)(d:Nat):(Op.equalIn (d+1) t vx vy).run P w=.ok b w:=by
 cases k with
  |int=>obtain⟨q,hq⟩:=ht;cases x<;>simp[fZ]at hk;cases y<;>simp[A8]at h;obtain⟨rfl,rfl⟩:=h;simp only[Rd]at h1 h2;subst h1;subst h2;simp[Op.equalIn,run_underlying hq]
  |str=>simp only[gf]at ht;cases x<;>simp[fZ]at hk;cases y<;>simp[A8]at h;simp only[Rd]at h1 h2;obtain⟨s1,rfl,rfl⟩:=h1;obtain⟨s2,rfl,rfl⟩:=h2;have:=zH s1 s2;rw[h]at this;simp[Op.equalIn,run_underlying ht,this]
  |bool=>simp only[gf]at ht;cases x<;>simp[fZ]at hk;cases y<;>simp[A8]at h;subst h;simp only[Rd]at h1 h2;subst h1;subst h2;simp[Op.equalIn,run_underlying ht]
theorem xA(h:gf P t k):(isAgg t).run P w=.ok false w:=by
 cases k with
  |int=>obtain⟨q,hq⟩:=h;simp[isAgg,run_underlying hq]
  |str=>simp only[gf]at h;simp[isAgg,run_underlying h]
  |bool=>simp only[gf]at h;simp[isAgg,run_underlying h]
theorem qQ(d:Nat){xs ys:Array Value}:∀{fs:List Field}{n:Nat}{ks:List dj}{us vs:List V}{b:Bool},gT P n fs=some ks->iT ks us vs=some b->aN g w us (xs.toList.drop n)->aN g w vs (ys.toList.drop n)->(Op.eqFields (d+1) xs ys fs).run P w=.ok b w
 |[],n,ks,us,vs,b,h1,h2,_,_=>by simp only[gT,aar]at h1;subst h1;cases us<;>cases vs<;>simp[iT]at h2;simp_all[Op.eqFields]
 |f::fs,n,ks,us,vs,b,h1,h2,h3,h4=>by
  simp only[gT]at h1;split at h1
  ·rename_i hc;split at h1
   ·rename_i k ks' hk CB;simp at h1;subst h1;cases us with
     |nil=>grind[iT]
     |cons u us=>
      obtain⟨x,rfl⟩:∃x,u=.d x:=by cases u<;>first|exact⟨_,rfl⟩|grind[iT]
      cases vs with
       |nil=>grind[iT]
       |cons v vs=>
        obtain⟨y,rfl⟩:∃y,v=.d y:=by cases v<;>first|exact⟨_,rfl⟩|grind[iT]
        simp only[iT]at h2;cases Ek:fZ k x with
         |false=>grind
         |true=>
          rw[Ek]at h2;simp at h2;have o6:=zK hk;have cell:∀(zs:Array Value)(z:D)(ws:List V),aN g w (.d z::ws) (zs.toList.drop n)->∃c,zs[n]? =some c/\Rd w (cl g w) z c/\aN g w ws (zs.toList.drop (n+1)):=by
           intro zs z ws h;cases hd:zs.toList.drop n with
            |nil=>grind[aN]
            |cons c cs=>
             rw[hd]at h;simp only[aN,RV]at h;refine⟨c,?_,h.1,?_⟩
             ·have:(zs.toList.drop n)[0]? =some c:=by grind
              grind
             ·have:zs.toList.drop (n+1)=cs:=by rw[←acw,hd];rfl
              grind
          obtain⟨c1,a1,a2,a3⟩:=cell xs x us h3;obtain⟨c2,b1,b2,b3⟩:=cell ys y vs h4;have xB:=xA (P:=P) (w:=w) o6;have p1:(part f.type xs f.offset).run P w=.ok c1 w:=by simp_all[part]
          have p2:(part f.type ys f.offset).run P w=.ok c2 w:=by simp_all[part]
          simp only[Op.eqFields,hc.2,ne_eq,not_false_eq_true,abK,Sem.run_bind,p1,p2,Result.andThen_ok];cases Zt:A8 x y with
           |none=>grind
           |some r=>
            rw[ub o6 Ek Zt a2 b2 d];rw[Zt]at h2;cases r with
             |true=>simp only at h2;simp;exact qQ d CB h2 a3 b3
             |false=>simp_all
   ·cases h1
  ·cases h1
theorem JC{op:BinOp}{yt:TypeId}{x y:Operand}{y':aU}{ks:List dj}{us vs:List V}{b neg:Bool}(ho:o.op=.binOp op t x y yt)(fT:(op=.eql/\neg=false)\/(op=.neq/\neg=true))(hp:jx P t=some ks)(hx:ar x=some x')(hy:ar y=some y')(e1:ρ x'=.agg us)(e2:ρ y'=.agg vs)(h:iT ks us vs=some b)(ev:Ev ρ a g w)(hh:aw g w H):Good P a o g w ns (.d (.bool (bif neg then !b else b))) H:=by
 have cY:=ev _ _ hx;have e9:=ev _ _ hy;rw[e1]at cY;rw[e2]at e9;simp only[RV]at cY e9;obtain⟨xs,f1,r1⟩:=cY;obtain⟨ys,f2,r2⟩:=e9;unfold jx at hp;split at hp
 ·rename_i fs hu;split at hp
  ·rename_i hc;have Hk:P.fieldsOf t=fs:=by simp[Program.fieldsOf,hu]
   have key:∀d,(Op.equalIn (d+2) t (.agg xs) (.agg ys)).run P w=.ok b w:=by intro d;rw[run_equalIn_struct w (d+1) t xs ys (by grind) hc.1,Hk];exact qQ d hp h (by simpa using r1) (by grind)
   have heq:(Op.equal t (.agg xs) (.agg ys)).run P w=.ok b w:=key 9998;have lu:(eqGuard op t x y (.agg xs) (.agg ys)).run P w=.ok () w:=run_eqGuard_agg w op t x y xs ys hc.2;refine Good.val (x:=.bool (bif neg then !b else b)) hh ?_ (RV.A_ _);rcases fT with⟨rfl,rfl⟩|⟨rfl,rfl⟩<;>simp[execOp,ho,f1,f2,lu,binOp,heq]
  ·cases hp
 ·cases hp
theorem kM{b o k:Nat}(h:k≠b):(w.freeze ⟨b,o,none⟩ n).heap[k]? =w.heap[k]? :=by unfold World.freeze;grind
theorem lR{a:Addr}:(w.freeze a n).heap.size=w.heap.size:=by unfold World.freeze;grind
theorem bu.uE{g:G}{H:an}(hh:aw g w H)(o:Obj)(q n:Nat):bu g w g ((w.alloc o).freeze ⟨w.heap.size,q,none⟩ n):=by
 have hk:∀k,k<w.heap.size->((w.alloc o).freeze ⟨w.heap.size,q,none⟩ n).heap[k]? =w.heap[k]? :=by intro k hk;rw[kM (by omega),cj _ _ hk]
 have h1:∀(w':World)(a:Addr),(w'.freeze a n).os=w'.os/\(w'.freeze a n).tape=w'.tape/\(w'.freeze a n).output=w'.output:=by intro w' a;unfold World.freeze;grind
 obtain⟨e1,e2,e3⟩:=h1 (w.alloc o) ⟨w.heap.size,q,none⟩;refine⟨e1,e2,e3,by grind,fun k qh=>⟨⟨by rw[lR];have:=qh.1;simp;omega,qh.2⟩,hk k qh.1⟩,fun _ h=>h,fun _ _=>GB.step.refl _,rfl,rfl,fun k qh=>hk k (hh.fo k qh).1⟩
theorem run_mark(c:Array Value)(e:TypeId)(w:World):(markStringish ⟨w.heap.size,0,none⟩).run P (w.alloc (.cells c e))=.ok () ((w.alloc (.cells c e)).freeze ⟨w.heap.size,c.size,none⟩ 1):=by
 have h:(w.alloc (.cells c e)).shape? w.heap.size=some (e,c.size):=by unfold World.shape?;rw[bc]
 grind[markStringish,Sem.run_bind,run_shape,Result.andThen_ok,run_freeze]
theorem zL{s d:TypeId}{x:Operand}{l:List UInt8}(ho:o.op=.convert s d x)(hs:P.underlying s=some .string)(hd:P.underlying d=some (.slice e))(he:P.underlying e=some (.int .u8))(hx:ar x=some x')(ex:ρ x'=.d (.str l))(ev:Ev ρ a g w)(hh:aw g w H):Good P a o g w ns (.d (.list (l.map fun b=>[.int .u8 b.toNat]))) H:=by
 have hv:=ev _ _ hx;rw[ex]at hv;obtain⟨b,hb,rfl⟩:=RV.str hv;have dT:∃(cap:Nat)(fz:Nat),b.size<=cap/\(execOp a.eval o).run P w=.ok (.value (.slice (some ⟨w.heap.size,0,none⟩) b.size cap)) ((w.drew.alloc (.cells ((b.data.map fun x=>(Value.int .u8 x.toNat))++Array.replicate (cap - b.size) (.int .u8 0)) e)).freeze ⟨w.heap.size,fz,none⟩ 1):=by
  have hm:=run_mark (P:=P) ((b.data.map fun(x:UInt8)=>(Value.int .u8 x.toNat))++Array.replicate ((Question.appendCap b.size 0 e).cut (w.tape w.drawn (.appendCap b.size 0 e)) - b.size) (Value.int .u8 0)) e w.drew;refine⟨(Question.appendCap b.size 0 e).cut (w.tape w.drawn (.appendCap b.size 0 e)),((b.data.map fun(x:UInt8)=>(Value.int .u8 x.toNat))++Array.replicate ((Question.appendCap b.size 0 e).cut (w.tape w.drawn (.appendCap b.size 0 e)) - b.size) (Value.int .u8 0)).size,?_,?_⟩
  ·simp[Question.cut]
  ·have T3:w.drew.heap.size=w.heap.size:=rfl;rw[T3]at hm;simp only[execOp,ho,hb,convert,Sem.run_bind,run_underlying hs,run_underlying hd,run_underlying he,Result.andThen_ok,Conv.stringToBytes,run_choose,Question.forced,newRow,run_newObj,Sem.run_pure,abR,ab0];erw [hm];rfl
 obtain⟨cap,fz,HK,hr⟩:=dT;have hhd:=hh.drew;have rN:=bu.uE (w:=w.drew) hhd (.cells ((b.data.map fun x=>(Value.int .u8 x.toNat))++Array.replicate (cap - b.size) (.int .u8 0)) e) fz 1;have iC:=(eB g w).trans rN;have gp:∀c y k,g.γ c=some y->y.own=some k->((w.drew.alloc (.cells ((b.data.map fun x=>(Value.int .u8 x.toNat))++Array.replicate (cap - b.size) (.int .u8 0)) e)).freeze ⟨w.heap.size,fz,none⟩ 1).heap[k]? =w.heap[k]? :=by intro c y k hy hk;obtain⟨_,z,_,h3⟩:=hh.live c y hy;have:=h3.lt k hk;rw[kM (by omega)];exact cj w.drew _ this
 refine⟨g,_,_,hr,.inl ⟨_,rfl,?_⟩,hh.ext iC gp,iC,fun _ h=>.inl h⟩;have xC:∀j,j<b.size->((w.drew.alloc (.cells ((b.data.map fun x=>(Value.int .u8 x.toNat))++Array.replicate (cap - b.size) (.int .u8 0)) e)).freeze ⟨w.heap.size,fz,none⟩ 1).cell? ⟨w.heap.size,j,none⟩=(b.data.toList[j]? ).map fun x=>Value.int .u8 x.toNat:=by
  intro j hj;have cy:w.drew.heap.size<(w.drew.alloc (.cells ((b.data.map fun x=>(Value.int .u8 x.toNat))++Array.replicate (cap - b.size) (.int .u8 0)) e)).heap.size:=by simp
  have U2:=bc w.drew (.cells ((b.data.map fun x=>(Value.int .u8 x.toNat))++Array.replicate (cap - b.size) (.int .u8 0)) e);have Lg:∃fr,((w.drew.alloc (.cells ((b.data.map fun x=>(Value.int .u8 x.toNat))++Array.replicate (cap - b.size) (.int .u8 0)) e)).freeze ⟨w.heap.size,fz,none⟩ 1).heap[w.heap.size]? =some (.cells ((b.data.map fun x=>(Value.int .u8 x.toNat))++Array.replicate (cap - b.size) (.int .u8 0)) e fr):=by unfold World.freeze;rw[aaH (by omega)];simp only[abC,abK];simp_all
  obtain⟨fr,Lg⟩:=Lg;simp only[World.cell?,Lg];have zM:j<b.data.size:=hj;grind
 simp only[RV,Rd];refine .inr ⟨w.heap.size,0,cap,1,by simp,by simp_all,fun _=>⟨by rw[lR];simp,fun hf=>by have:=(hh.fo _ hf).1;omega,fun c y hy hk=>?_ ⟩,dR.eM fun i e' OR=>?_ ⟩
 ·obtain⟨_,z,_,h3⟩:=hh.live c y hy;have:=h3.lt _ hk;omega
 ·simp only[aa4,aaA]at OR;obtain⟨c,hc,rfl⟩:=OR;have hi:i<b.size:=by have:=(aaz.1 hc).1;simp_all
  simp_all[cP,aaK,abU,Rd]
theorem uF:∀(ns:List Int)(s:ByteArray),(ns.foldl (fun r n=>r.push (UInt8.ofNat n.toNat)) s).data.toList=s.data.toList++ns.map fun n=>UInt8.ofNat n.toNat
 |[],s=>by simp
 |n::ns,s=>by rw[abw,uF ns];simp[ByteArray.push]
theorem uG{g:G}{w:World}:∀{xs:List V}{l:List UInt8}{vs:List Value},kH xs=some l->aN g w xs vs->∃ns:List Int,vs=ns.map (Value.int .u8)/\l=ns.map fun n=>UInt8.ofNat n.toNat
 |[],l,vs,h,hv=>by
  simp only[kH,aar]at h;cases vs with
   |nil=>exact⟨[],rfl,h.symm⟩
   |cons _ _=>simp only[aN]at hv
 |x::xs,l,[],h,hv=>by simp only[aN]at hv
 |x::xs,l,v::vs,h,hv=>by
  unfold kH at h;split at h
  ·cases ‹_::_=[]›
  ·rename_i n l' heq;simp only[acm]at heq;obtain⟨rfl,rfl⟩:=heq;split at h
   ·rename_i s hs;simp only[aar]at h;subst h;simp only[aN,RV,Rd]at hv;obtain⟨rfl,hv⟩:=hv;obtain⟨ns,rfl,rfl⟩:=uG hs hv;exact⟨n::ns,rfl,rfl⟩
   ·cases h
  ·cases h
theorem zN{s d:TypeId}{x:Operand}{b hb off len sz:Nat}{xs:List V}{l:List UInt8}(ho:o.op=.convert s d x)(hs:P.underlying s=some (.slice e))(hd:P.underlying d=some .string)(he:P.underlying e=some (.int .u8))(hx:ar x=some x')(ex:ρ x'=.sl b hb off len sz)(Bj:bO H 1 (.sl b hb off len sz)=some xs)(U3:kH xs=some l)(ev:Ev ρ a g w)(hh:aw g w H):Good P a o g w ns (.d (.str l)) H:=by
 have hv:=ev _ _ hx;rw[ex]at hv;obtain⟨n,vs,f1,f2,f3,f4⟩:=gn (P:=P) Bj hv hh (by omega);obtain⟨ms,rfl,rfl⟩:=uG U3 f3;have U4:∃base n' cap,a.eval x=.slice base n' cap:=by
  simp only[bO]at Bj;cases hz:Nat.beq 1 sz with
   |false=>rw[hz]at Bj;simp at Bj
   |true=>
    rw[hz]at Bj;simp only[aaw]at Bj;split at Bj
    ·rename_i cs hg;cases hq:(Nat.beq cs.length hb&&Nat.ble (off+len*1) hb)with
      |false=>rw[hq]at Bj;simp at Bj
      |true=>
       simp only[aas]at hq;obtain⟨gb,sh⟩:=hh.back b _ hg;obtain⟨Bk,y,hy,hr⟩:=hh.live b gb sh;rw[hg]at hy;simp only[aar]at hy;subst hy;simp only[RV]at hv;have:=hv.2 gb sh;cases gb with
        |nil=>exact⟨_,_,_,this.2.2.2⟩
        |obj=>exact this.elim
        |cells aM cp cur=>simp only[RB]at hr;obtain⟨cap,k,_⟩:=this.2 (by have:=hr.1;have:=aau hq.1;omega);exact⟨_,_,_,k⟩
    ·rename_i hg;obtain⟨gb,sh⟩:=hh.back b _ hg;obtain⟨Bk,y,hy,hr⟩:=hh.live b gb sh;rw[hg]at hy;simp only[aar]at hy;subst hy;simp only[RV]at hv;have:=hv.2 gb sh;cases gb with
      |nil=>exact⟨_,_,_,this.2.2.2⟩
      |obj=>exact this.elim
      |cells aM cp cur=>simp only[RB]at hr
    ·cases Bj
 obtain⟨base,n',cap,Zu⟩:=U4;rw[Zu]at f1 f2;have hn:n=n':=by simpa[Builtin.lenOf]using f1.symm
 subst hn;have dT:(Conv.bytesToString (.slice base n cap)).run P w=.ok (.string (ms.foldl (fun r n=>r.push (UInt8.ofNat n.toNat)) ByteArray.empty)) w:=by
  cases base with
   |none=>
    simp only[Builtin.firstCells,Sem.run_pure,Result.ok.injEq,ab']at f2;have:ms=[]:=by
     cases ms with
      |nil=>rfl
      |cons _ _=>simp at f2
    subst this;simp[Conv.bytesToString,Sem.run_pure]
   |some q=>refine run_bytesToString w q n cap ms ?_;simpa[Builtin.firstCells]using f2
 refine Good.val (x:=.string (ms.foldl (fun r n=>r.push (UInt8.ofNat n.toNat)) ByteArray.empty)) hh ?_ ?_
 ·simp only[execOp,ho,Zu,Sem.run_bind,run_convert_bytes_string w s d e base n cap hs he hd,dT,Result.andThen_ok,Sem.run_pure]
 ·simp only[RV,Rd];exact⟨_,rfl,by rw[uF];rfl⟩
theorem wrap_small(h:n<=cf):IntKind.i64.wrap (n:Int)=n:=by
 have h2:cf=1099511627776:=by decide
 unfold IntKind.wrap;have e1:(2:Int)^IntKind.i64.bits=18446744073709551616:=by decide
 have e2:(2:Int)^(IntKind.i64.bits - 1)=9223372036854775808:=by decide
 grind
theorem HL{i:TypeInfo}{zs:List V}{l c:Operand}{l' c':aU}(ho:o.op=.makeSlice t l c)(ht:P.underlying t=some (.slice e))(hi:P.info? e=some i)(hz:c_ P e=some zs)(hl:ar l=some l')(hc:ar c=some c')(h:bt ρ H ns (.np i.size i.bytes zs l' c')=some (v,wr))(ev:Ev ρ a g w)(hh:aw g w H)(fD:f_ g ns):Good P a o g w ns v (bp H wr):=by
 simp only[c_,aa9]at hz;obtain⟨zv,⟨i2,qi,xp⟩,hm⟩:=hz;rw[hi]at qi;simp only[aar]at qi;subst qi;obtain⟨hv,j2⟩:=iU (g:=g) (w:=w) hm;simp only[bt]at h;split at h
 ·rename_i ln cn el ec;cases hb:(Nat.ble ln cn&&Nat.ble (cn*(i.bytes+1)) cf&&Nat.ble cn cf&&zs.all eL&&Nat.beq zs.length i.size&&Nat.blt 0 i.size)with
   |false=>grind
   |true=>
    rw[hb]at h;simp only[aaw,aar,aav]at h;obtain⟨rfl,rfl⟩:=h;simp only[aas]at hb;have b1:=aax hb.1.1.1.1.1;have b2:=aax hb.1.1.1.1.2;have b3:=aax hb.1.1.1.2;have b4:=aau hb.1.2;have b5:0<i.size:=by simp_all
    have uH:cf=1099511627776:=by decide
    obtain⟨kl,T4⟩:=ei el (ev _ _ hl);obtain⟨kc,Zv⟩:=ei ec (ev _ _ hc);have K_:zv.cells.size=i.size:=by have:=hv.length;grind
    have w1:=wrap_small (n:=ln) (by omega);have w2:=wrap_small (n:=cn) b3;have JD:i.bytes*cn<=1099511627776:=by grind
    have U5:¬((cn:Int)<0):=by omega
    have dT:(execOp a.eval o).run P w=.ok (.value (.slice (some ⟨w.heap.size,0,none⟩) ln cn)) (w.alloc (.cells ((Array.range (cn*i.size)).map (zv.cells[·%zv.cells.size]! )) e)):=by
     have uI:¬((ln:Int)<0):=by omega
     have hlc:¬((ln:Int)>(cn:Int)):=by omega
     by_cases N3:cn=0
     ·subst N3;have:ln=0:=by omega
      subst this;have w0:IntKind.i64.wrap 0=0:=by decide
      simp[execOp,ho,Instr.makeSlice,run_underlying ht,T4,Zv,asInt,asIntOf,typeInfo,hi,w0,Go.sizeOf,newRow,show Array.range 0= #[]from rfl]
     ·have Zj:¬(cn=0\/i.size=0):=by omega
      have Lh:¬(281474976710656<(i.bytes:Int)*(cn:Int)):=by grind
      have U6:¬(cn*i.size=0):=by rw[ack];omega
      have U7:¬((cn:Int)<(ln:Int)):=by omega
      simp[execOp,ho,Instr.makeSlice,run_underlying ht,T4,Zv,asInt,asIntOf,typeInfo,hi,w1,w2,Lh,uI,U7,U5,Go.sizeOf,U6,zeroValue,xp,newRow]
    have aac:=fD;let g':=g.add ns (.cells w.heap.size (cn*i.size) (ln*i.size));have he:=bu.new hh fD (.cells ((Array.range (cn*i.size)).map (zv.cells[·%zv.cells.size]! )) e) (.cells w.heap.size (cn*i.size) (ln*i.size)) rfl;have hle:ln*i.size<=cn*i.size:=aa0 _ b1;refine⟨g',_,_,dT,.inl ⟨_,rfl,?_⟩,aw.new hh fD _ _ _ rfl ?_,he,fun _ h=>h⟩
    ·exact RV.xu (cp:=cn*i.size) (.inr rfl) (by simp[g',G.add]) b1 (by omega)
    ·simp only[RB];have zO:((List.range (ln*i.size)).map fun j=>zs.getD (j%i.size) .any).all eL=true:=by simp only[aaJ,aba,aa'];rintro x ⟨j,_,rfl⟩;have:=ab1 j b5;grind
     refine⟨by simp,zO,by grind,_,e,bc _ _,by simp,?_ ⟩;refine aN.ext he _ _ (aN.eM (by grind) fun j u x hu hx=>?_ );simp only[aaE,List.length_range]at hx;rw[aa5]at hx;split at hx
     ·rename_i hj;rw[sg _ (by omega)]at hx;have zM:j<cn*i.size:=by omega
      rw[aaF zM,K_]at hx;simp[hj]at hu;subst hu;have TZ:=ab1 j b5;have hg:zs[j%i.size]? =some (zs[j%i.size]'(by omega)):=aay _;rw[hg,abl];obtain⟨v',h5,h6⟩:=aN.get (j%i.size) hv hg;grind
     ·cases hx
 ·cases h
theorem OS{x:Operand}(ho:o.op=.call {callee:=.builtin .cap,args:= #[x],argTypes:= #[t]})(ht:P.underlying t=some (.slice e))(hx:ar x=some x')(h:bt ρ H ns (.cap x')=some (v,wr))(ev:Ev ρ a g w)(hh:aw g w H):Good P a o g w ns v (bp H wr):=by
 have cY:=ev _ _ hx;simp only[bt]at h;split at h
 ·rename_i e1;rw[e1]at cY;simp only[RV]at cY;simp at h;obtain⟨rfl,rfl⟩:=h;refine Good.val (x:=.int .i64 0) hh ?_ (RV.zp _ _);simp[execOp,ho,resolve,invoke,builtin,Builtin.cap_,run_underlying ht,cY,goInt]
 ·cases h
theorem CD{u:TypeId}{k:IntKind}{i:TypeInfo}{zs:List V}{x y:Operand}{y':aU}(ho:o.op=.call {callee:=.builtin .append,args:= #[x,y],argTypes:= #[t,u]})(ht:P.underlying t=some (.slice e))(hu:P.underlying u=some (.int k))(hi:P.info? e=some i)(hz:c_ P e=some zs)(hx:ar x=some x')(hy:ar y=some y')(h:bt ρ H ns (.oO i.size i.bytes zs x' y')=some (v,wr))(ev:Ev ρ a g w)(hh:aw g w H)(fD:f_ g ns):Good P a o g w ns v (bp H wr):=by
 simp only[c_,aa9]at hz;obtain⟨zv,⟨i2,qi,xp⟩,hm⟩:=hz;rw[hi]at qi;simp only[aar]at qi;subst qi;obtain⟨hv,j2⟩:=iU (g:=g) (w:=w) hm;have cY:=ev _ _ hx;simp only[bt]at h;split at h
 ·rename_i n e1 en;rw[e1]at cY;simp only[RV]at cY;cases hb:(Nat.blt 0 n&&Nat.ble (n*(i.bytes+1)) cf&&Nat.ble n cf&&zs.all eL&&Nat.beq zs.length i.size&&Nat.blt 0 i.size)with
   |false=>grind
   |true=>
    rw[hb]at h;simp only[aaw,aar,aav]at h;obtain⟨rfl,rfl⟩:=h;simp only[aas]at hb;have b0:0<n:=by simp_all
    have b2:=aax hb.1.1.1.1.2;have b3:=aax hb.1.1.1.2;have b4:=aau hb.1.2;have b5:0<i.size:=by simp_all
    have uH:cf=1099511627776:=by decide
    obtain⟨kn,hkn⟩:=ei en (ev _ _ hy);have K_:zv.cells.size=i.size:=by have:=hv.length;grind
    have w1:=wrap_small (n:=n) b3;have JD:n*i.bytes<=1099511627776:=by grind
    have uI:¬((n:Int)<0):=by omega
    have Lh:¬(281474976710656<(n:Int)*(i.bytes:Int)):=by grind
    have U6:¬(n*i.size=0):=by rw[ack];omega
    have N3:¬(n=0\/i.size=0):=by omega
    have U8:¬n=0:=by omega
    have T1:¬(9223372036854775807<(n:Int)):=by omega
    have hnx:Builtin.nextslicecap n 0=n:=by simp[Builtin.nextslicecap,b0]
    have K9:¬(281474976710656<n*i.bytes):=by omega
    have dT:(execOp a.eval o).run P w=.ok (.value (.slice (some ⟨w.heap.size,0,none⟩) n (grownCap w n 0 e))) (w.drew.alloc (.cells (Builtin.zeroCells zv.cells n++Builtin.zeroCells zv.cells (grownCap w n 0 e - n)) e)):=by simp[execOp,ho,resolve,invoke,builtin,Builtin.append_,run_underlying ht,run_underlying hu,cY,hkn,asInt,asIntOf,w1,uI,Lh,U6,U8,T1,hnx,K9,Go.sizeOf,typeInfo,zeroValue,hi,xp,Question.forced,Builtin.firstCells,newRow,grownCap]
    have ON:=grownCap_ge w n 0 e;have cH:(Builtin.zeroCells zv.cells n++Builtin.zeroCells zv.cells (grownCap w n 0 e - n)).size=grownCap w n 0 e*i.size:=by simp only[Array.size_append,size_zeroCells,K_,←abJ];grind
    have hle:n*i.size<=grownCap w n 0 e*i.size:=aa0 _ ON;let g':=g.add ns (.cells w.heap.size (grownCap w n 0 e*i.size) (n*i.size));have hd:=eB g w;have he:=bu.new hh.drew fD (.cells (Builtin.zeroCells zv.cells n++Builtin.zeroCells zv.cells (grownCap w n 0 e - n)) e) (.cells w.heap.size (grownCap w n 0 e*i.size) (n*i.size)) rfl;refine⟨g',_,_,dT,.inl ⟨_,rfl,?_⟩,aw.new hh.drew fD _ _ _ rfl ?_,hd.trans he,fun _ h=>h⟩
    ·exact RV.xu (cp:=grownCap w n 0 e*i.size) (.inr rfl) (by simp[g',G.add]) ON (by omega)
    ·simp;have zO:((List.range (n*i.size)).map fun j=>zs.getD (j%i.size) .any).all eL=true:=by simp only[aaJ,aba,aa'];rintro x ⟨j,_,rfl⟩;have:=ab1 j b5;grind
     refine⟨by simp,zO,by grind,_,e,bc _ _,by grind,?_ ⟩;refine aN.ext he _ _ (aN.ext hd _ _ (aN.eM ?_ fun j u x hu hx=>?_ ))
     ·grind
     ·simp at hx;rw[aa5]at hx;split at hx
      ·rename_i hj;simp[hj]at hu;subst hu;have hj3:j<(Builtin.zeroCells zv.cells n).size:=by grind[size_zeroCells]
       have nb:(Builtin.zeroCells zv.cells n)[j]? =some x:=by grind
       have U9:((Array.range (n*i.size)).map (zv.cells[·%zv.cells.size]! )).toList[j]? =some x:=by grind[Builtin.zeroCells]
       rw[sg _ (by omega),aaF hj,K_]at U9;have TZ:=ab1 j b5;have hg:zs[j%i.size]? =some (zs[j%i.size]'(by omega)):=aay _;rw[hg,abl];obtain⟨v',h5,h6⟩:=aN.get (j%i.size) hv hg;grind
      ·cases hx
 ·cases h
end
end Fw
/-
  Every operation that calls nothing.
-/
namespace Fw
open Go
section
variable {P:Program}{a:Act}{o:Oper}{g:G}{w:World}{ρ:aU->V}{H:an}{ns:Nat}
variable {v:V}{wr:Wr}
theorem Bl{t:TypeId}{x:Operand}{x':aU}{k:kD}{c:Call}(ho:o.op=.call c)(hc:c.callee=.builtin .len)(gV:c.args.toList=[x])(Hm:c.argTypes.toList=[t])(hx:ar x=some x')(hk:Eg P t k\/∃n e,k=.arr n/\P.underlying t=some (.array n e))(h:bt ρ H ns (.len k x')=some (v,wr))(ev:Ev ρ a g w)(hh:aw g w H):Good P a o g w ns v (bp H wr):=by
 obtain⟨callee,args,ts⟩:=c;have e1:args= #[x]:=aa7.1 (by grind);have e2:ts= #[t]:=aa7.1 (by grind);simp only at hc;subst hc;subst e1;subst e2;have exec:∀n:Int,(Builtin.len_ #[t] o.type #[a.eval x]).run P w=.ok (goInt n) w->(execOp a.eval o).run P w=.ok (.value (goInt n)) w:=by simp_all[execOp,resolve,invoke,builtin]
 have fin:∀n:Nat,(Builtin.len_ #[t] o.type #[a.eval x]).run P w=.ok (goInt n) w->Good P a o g w ns (.d (.int .i64 n)) H:=fun n hn=>Good.val hh (exec _ hn) (RV.zp _ _)
 rcases hk with hk|⟨n,e,rfl,hn⟩
 ·cases k with
   |arr=>exact hk.elim
   |str=>
    simp only[bt]at h;split at h
    ·rename_i n hn;simp at h;obtain⟨rfl,rfl⟩:=h;exact fin n (vV hn (ev _ _ hx) hh hk)
    ·cases h
   |slice=>
    simp only[bt]at h;split at h
    ·rename_i n hn;simp at h;obtain⟨rfl,rfl⟩:=h;exact fin n (vV hn (ev _ _ hx) hh hk)
    ·cases h
   |map=>
    simp only[bt]at h;split at h
    ·rename_i n hn;simp at h;obtain⟨rfl,rfl⟩:=h;exact fin n (vV hn (ev _ _ hx) hh hk)
    ·cases h
 ·simp only[bt,aar,aav]at h;obtain⟨rfl,rfl⟩:=h;exact fin n (by simp[Builtin.len_,run_underlying hn])
theorem Em{c:Call}{io:jv}(ho:o.op=.call c)(hc:cR P c=some io)(he:bt ρ H ns io=some (v,wr))(ev:Ev ρ a g w)(hh:aw g w H)(fD:f_ g ns):Good P a o g w ns v (bp H wr):=by
 unfold cR at hc;split at hc
 ·rename_i eC;split at hc
  ·rename_i x t gV Hm;split at hc
   ·rename_i hu;simp at hc;obtain⟨x',hx,rfl⟩:=hc;exact Bl (k:=.str) ho eC gV Hm hx (.inl hu) he ev hh
   ·rename_i e hu;simp at hc;obtain⟨x',hx,rfl⟩:=hc;exact Bl (k:=.slice) ho eC gV Hm hx (.inl ⟨e,hu⟩) he ev hh
   ·rename_i k e hu;simp at hc;obtain⟨x',hx,rfl⟩:=hc;exact Bl (k:=.map) ho eC gV Hm hx (.inl ⟨k,e,hu⟩) he ev hh
   ·rename_i n e hu;simp at hc;obtain⟨x',hx,rfl⟩:=hc;exact Bl ho eC gV Hm hx (.inr ⟨n,e,rfl,hu⟩) he ev hh
   ·cases hc
  ·cases hc
 ·rename_i eC;split at hc
  ·rename_i x y t u gV Hm;split at hc
   ·rename_i e k hu Jy;split at hc
    ·rename_i i z x' y' hi hz hx hy;simp at hc;subst hc;obtain⟨callee,args,ts⟩:=c;have e1:args= #[x,y]:=aa7.1 (by grind);have e2:ts= #[t,u]:=aa7.1 (by grind);simp only at eC;subst eC;subst e1;subst e2;exact CD ho hu Jy hi hz hx hy he ev hh fD
    ·cases hc
   ·rename_i e d U' hu Jy;split at hc
    ·rename_i i z x' y' hd hi hz hx hy;split at hc
     ·rename_i eS;simp at hc;subst hc;simp only[bt]at he;split at he
      ·rename_i xs D8;obtain⟨callee,args,ts⟩:=c;have e1:args= #[x,y]:=aa7.1 (by grind);have e2:ts= #[t,u]:=aa7.1 (by grind);simp only at eC;subst eC;subst e1;subst e2;refine Eh ho rfl hu ?_ hi hz eS.1 eS.2 hx hy D8 he ev hh fD;cases d<;>simp[KV]at hd;all_goals grind
      ·cases he
     ·cases hc
    ·cases hc
   ·cases hc
  ·cases hc
 ·rename_i eC;split at hc
  ·rename_i x t gV Hm;split at hc
   ·rename_i e hu;simp at hc;obtain⟨x',hx,rfl⟩:=hc;obtain⟨callee,args,ts⟩:=c;have e1:args= #[x]:=aa7.1 (by grind);have e2:ts= #[t]:=aa7.1 (by grind);simp only at eC;subst eC;subst e1;subst e2;exact OS ho hu hx he ev hh
   ·cases hc
  ·cases hc
 ·rename_i eC;simp at hc;obtain⟨l,hl,rfl⟩:=hc;have hH:wr=none:=by grind[bt,Option.map_eq_some_iff,Prod.mk.injEq]
  subst hH;obtain⟨callee,args,ts⟩:=c;simp only at eC;subst eC;exact xz (isMax:=false) ho hl he ev hh
 ·rename_i eC;simp at hc;obtain⟨l,hl,rfl⟩:=hc;have hH:wr=none:=by grind[bt,Option.map_eq_some_iff,Prod.mk.injEq]
  subst hH;obtain⟨callee,args,ts⟩:=c;simp only at eC;subst eC;exact xz (isMax:=true) ho hl he ev hh
 all_goals grind[Option.map_eq_some_iff,bt]
theorem sq{io:jv}(hc:aV P o.op=some io)(he:bt ρ H ns io=some (v,wr))(ev:Ev ρ a g w)(hh:aw g w H)(fD:f_ g ns):Good P a o g w ns v (bp H wr):=by
 unfold aV at hc;split at hc
 ·rename_i x ho;simp at hc;obtain⟨x',hx,rfl⟩:=hc;simp only[bt,aar,aav]at he;obtain⟨rfl,rfl⟩:=he;exact OD (.inl ho) hx ev hh
 ·rename_i x ho;simp at hc;obtain⟨x',hx,rfl⟩:=hc;simp only[bt,aar,aav]at he;obtain⟨rfl,rfl⟩:=he;exact OD (.inr ho) hx ev hh
 ·rename_i c x y ho;split at hc
  ·rename_i c' x' y' h1 h2 h3;simp at hc;subst hc;simp only[bt]at he;split at he
   ·rename_i b hb;simp at he;obtain⟨rfl,rfl⟩:=he;exact KX ho h1 h2 h3 hb ev hh
   ·cases he
  ·cases hc
 ·rename_i t ho;simp at hc;obtain⟨z,hz,rfl⟩:=hc;simp only[bt,aar,aav]at he;obtain⟨rfl,rfl⟩:=he;exact Hx ho hz hh fD
 ·rename_i t x ho;split at hc
  ·rename_i n x' hn hx;simp at hc;subst hc;simp only[bt]at he;cases eS:(Nat.beq (bU (ρ x')).length n&&(bU (ρ x')).all eL)with
    |false=>grind
    |true=>rw[eS]at he;simp at he;simp only[aas]at eS;obtain⟨rfl,rfl⟩:=he;rw[←aau eS.1];exact OE ho hx eS.2 ev hh fD
  ·cases hc
 ·rename_i t ps ho;split at hc
  ·rename_i fs z ht hz;split at hc
   ·rename_i sd vR;simp only[aaA]at hc;obtain⟨qs,hq,rfl⟩:=hc;simp only[bt,aaA,aav]at he;obtain⟨cs,nS,rfl,rfl⟩:=he;refine Ba ho hz (fun i zv parts hi xp=>?_ ) hq nS ev hh;grind[Program.built]
   ·cases hc
  ·rename_i n e z ht hz;split at hc
   ·rename_i ie Zs;simp at hc;obtain⟨qs,hq,rfl⟩:=hc;simp only[bt,aaA,aav]at he;obtain⟨cs,nS,rfl,rfl⟩:=he;refine Ba ho hz (fun i zv parts hi xp=>?_ ) hq nS ev hh;grind[Program.built]
   ·cases hc
  ·cases hc
 ·rename_i t len ps ho;split at hc
  ·rename_i e ht;split at hc
   ·rename_i s z hs hz;split at hc
    ·rename_i eS;simp only[aaA]at hc;obtain⟨qs,hq,rfl⟩:=hc;simp only[bt]at he;cases HM:(Nat.beq ((List.range (len*s)).map fun i=>z.getD (i%s) .any).length (len*s)&&((List.range (len*s)).map fun i=>z.getD (i%s) .any).all eL)with
      |false=>grind
      |true=>rw[HM]at he;simp at he;obtain⟨cs,nS,rfl,rfl⟩:=he;obtain⟨k1,k2⟩:=Cq ho ht hs hz eS.1 eS.2.1 eS.2.2 hq nS ev hh fD;rw[k2]at k1;exact k1
    ·cases hc
   ·cases hc
  ·cases hc
 ·rename_i t x ho;split at hc
  ·rename_i n b x' hn hb hx;split at hc
   ·simp at hc;subst hc;simp only[bt]at he;split at he
    ·rename_i cs nS;simp at he;obtain⟨v',fV,rfl,rfl⟩:=he;exact KY ho hn hb hx nS fV ev hh
    ·cases he
   ·cases hc
  ·cases hc
 ·rename_i t x y ho;split at hc
  ·rename_i n x' y' hn hx hy;simp at hc;subst hc;simp only[bt,aaA,aav]at he;obtain⟨H2,h2,rfl,rfl⟩:=he;exact Hz ho hn hx hy h2 ev hh
  ·cases hc
 ·rename_i x ho;simp at hc;obtain⟨x',hx,rfl⟩:=hc;have hH:wr=none:=by grind[bt,Option.some.injEq,Prod.mk.injEq,reduceCtorEq]
  subst hH;exact D9 ho hx he ev hh
 ·rename_i op t x y yt ho;split at hc
  ·rename_i x' y' hx hy;have aad:∀{io:jv},io=.bin op x' y'->bt ρ H ns io=some (v,wr)->Good P a o g w ns v (bp H wr):=by rintro io rfl he;simp only[bt,aaA,aav]at he;obtain⟨v',fV,rfl,rfl⟩:=he;exact OG ho hx hy fV ev hh
   have heq:∀{io:jv}{k:qd}{neg:Bool},io=.eq neg k x' y'->bt ρ H ns io=some (v,wr)->((op=.eql/\neg=false)\/(op=.neq/\neg=true))->(match k with| .bool=>P.underlying t=some .bool| .ptr=>∃e,P.underlying t=some (.pointer e)| .iface=>(∃e,P.underlying t=some (.interface e))/\((∃c,x=.const c)\/∃c,y=.const c)| .slice=>∃e,P.underlying t=some (.slice e)| .func=>∃s:Array TypeId×Array TypeId×Bool,P.underlying t=some (.func s.1 s.2.1 s.2.2))->Good P a o g w ns v (bp H wr):=by rintro io k neg rfl he fT hk;simp only[bt,aaA,aav]at he;obtain⟨b,hb,rfl,rfl⟩:=he;exact UR ho fT hk hx hy hb ev hh
   split at hc
   ·split at hc
    ·grind
    ·grind
    ·grind
    ·grind
    ·rename_i fs hu;simp at hc;obtain⟨ks,CB,rfl⟩:=hc;simp only[bt]at he;split at he
     ·rename_i us e1;split at he
      ·rename_i vs e2;split at he
       ·rename_i r zP;simp at he;obtain⟨rfl,rfl⟩:=he;exact JC ho (.inl ⟨rfl,rfl⟩) CB hx hy e1 e2 zP ev hh
       ·cases he
      ·cases he
     ·cases he
    all_goals grind
   ·split at hc
    ·grind
    ·grind
    ·grind
    ·grind
    ·rename_i fs hu;simp at hc;obtain⟨ks,CB,rfl⟩:=hc;simp only[bt]at he;split at he
     ·rename_i us e1;split at he
      ·rename_i vs e2;split at he
       ·rename_i r zP;simp at he;obtain⟨rfl,rfl⟩:=he;exact JC ho (.inr ⟨rfl,rfl⟩) CB hx hy e1 e2 zP ev hh
       ·cases he
      ·cases he
     ·cases he
    all_goals grind
   grind
  ·cases hc
 ·rename_i op t x ho;simp at hc;obtain⟨x',hx,rfl⟩:=hc;simp only[bt,aaA,aav]at he;obtain⟨v',fV,rfl,rfl⟩:=he;exact US ho hx fV ev hh
 ·rename_i s d x ho;split at hc
  ·rename_i k0 k x' hs hd hx;simp at hc;subst hc;simp only[bt]at he;split at he
   ·rename_i k1 n e;simp at he;obtain⟨rfl,rfl⟩:=he;exact K3 ho hs hd hx e ev hh
   ·cases he
  ·rename_i el x' hs hd hx;split at hc
   ·rename_i HN;simp at hc;subst hc;simp only[bt]at he;split at he
    ·rename_i l e;simp at he;obtain⟨rfl,rfl⟩:=he;exact zL ho hs hd HN hx e ev hh
    ·cases he
   ·cases hc
  ·rename_i el x' hs hd hx;split at hc
   ·rename_i HN;simp at hc;subst hc;simp only[bt]at he;split at he
    ·rename_i e;split at he
     ·rename_i xs D8;split at he
      ·rename_i s U3;simp only[aar,aav]at he;obtain⟨rfl,rfl⟩:=he;exact zN ho hs hd HN hx e D8 U3 ev hh
      ·cases he
     ·cases he
    ·cases he
   ·cases hc
  ·rename_i el el' x' hs hd hx;split at hc
   ·simp at hc;subst hc;simp[bt]at he
   ·cases hc
  ·cases hc
 ·rename_i f p q ho;split at hc
  ·rename_i p' q' hp hq;simp at hc;subst hc;simp only[bt,aar,aav]at he;obtain⟨rfl,rfl⟩:=he;exact Ee ho hp hq ev hh
  ·cases hc
 ·rename_i t ho;simp at hc;subst hc;simp only[bt,aar,aav]at he;obtain⟨rfl,rfl⟩:=he;exact HF ho hh fD
 ·rename_i t l c ho;split at hc
  ·rename_i e l' c' ht hl HM;split at hc
   ·rename_i i z hi hz;simp at hc;subst hc;exact HL ho ht hi hz hl HM he ev hh fD
   ·cases hc
  ·cases hc
 ·rename_i t x lo hi ho;split at hc
  ·rename_i x' xo jZ hx kz jr;split at hc
   ·rename_i ht;simp at hc;subst hc;simp only[bt]at he;split at he
    ·rename_i s e;simp only[aaA]at he;obtain⟨⟨l,h⟩,hb,he⟩:=he;simp at he;obtain⟨rfl,rfl⟩:=he;exact D_ ho ht hx kz jr e hb ev hh
    ·cases he
   ·rename_i el ht;simp at hc;obtain⟨s,hs,rfl⟩:=hc;simp only[bt]at he;split at he
    ·rename_i es e;cases hl:es.all (fun e=>Nat.beq e.length s)with
      |false=>grind
      |true=>rw[hl]at he;simp only[aaw,aaA]at he;obtain⟨⟨l,h⟩,hb,he⟩:=he;simp at he;obtain⟨rfl,rfl⟩:=he;exact Ea ho ht hs hx kz jr e hl hb ev hh
    ·rename_i b Li off len uA e;cases hl:(Nat.beq s uA&&eI H b Li)with
      |false=>grind
      |true=>rw[hl]at he;simp only[aaw,aaA]at he;obtain⟨⟨l,h⟩,zt,he⟩:=he;simp at he;obtain⟨rfl,rfl⟩:=he;simp only[aas]at hl;have:=aau hl.1;subst this;exact Cs ho ht hs hx kz jr e hl.2 zt ev hh
    ·rename_i e;simp only[aaA]at he;obtain⟨⟨l,h⟩,zt,he⟩:=he;simp at he;obtain⟨rfl,rfl⟩:=he;exact Cx ho ht hs hx kz jr e zt ev hh
    ·cases he
   ·rename_i n el ht;simp only[aaA]at hc;obtain⟨s,hs,rfl⟩:=hc;simp only[bt]at he;split at he
    ·rename_i b Li off e;cases hl:(eI H b Li&&Nat.ble (off+n*s) Li&&Nat.blt 0 Li)with
      |false=>rw[hl]at he;cases he
      |true=>rw[hl]at he;simp only[aaw,aaA]at he;obtain⟨⟨l,h⟩,zt,he⟩:=he;simp only[aav]at he;obtain⟨rfl,rfl⟩:=he;simp only[aas]at hl;exact Eb ho ht hs hx kz jr e hl.1.1 (aax hl.1.2) (by have:=hl.2;rwa[aaR]at this) zt ev hh
    ·cases he
   ·cases hc
  ·cases hc
 ·rename_i t x hi mx ho;split at hc
  ·rename_i x' jZ OB hx jr UT;split at hc
   ·rename_i el ht;simp at hc;obtain⟨s,hs,rfl⟩:=hc;simp only[bt]at he;split at he
    ·rename_i es h m e h1 h2;cases hl:(es.all (fun e=>Nat.beq e.length s)&&Nat.beq h m&&Nat.ble h es.length)with
      |false=>grind
      |true=>rw[hl]at he;simp at he;obtain⟨rfl,rfl⟩:=he;simp only[aas]at hl;have:=aau hl.1.2;subst this;exact K4 ho ht hs hx jr UT e hl.1.1 h1 h2 (aax hl.2) ev hh
    ·cases he
   ·cases hc
  ·cases hc
 ·rename_i s x f ho;split at hc
  ·rename_i fs x' ht hx;split at hc
   ·rename_i off n hf;split at hc
    ·rename_i h0;simp at hc;subst hc;have hH:wr=none:=by grind[bt,Option.some.injEq,Prod.mk.injEq,reduceCtorEq]
     subst hH;exact HD ho ht hf h0 hx he ev hh
    ·cases hc
   ·cases hc
  ·cases hc
 ·rename_i t x i ho;split at hc
  ·rename_i x' i' hx hi;split at hc
   ·rename_i e ht;simp at hc;obtain⟨s,hs,rfl⟩:=hc;have hH:wr=none:=by grind[bt]
    subst hH;exact HE ho ht hs hx hi he ev hh
   ·rename_i n e ht;simp at hc;obtain⟨s,hs,rfl⟩:=hc;have hH:wr=none:=by simp only[bt]at he;grind
    subst hH;exact Ed ho ht hs hx hi he ev hh
   ·cases hc
  ·cases hc
 ·rename_i t x i ho;split at hc
  ·rename_i x' i' hx hi;split at hc
   ·rename_i ht;simp at hc;subst hc;have hH:wr=none:=by grind[bt,Option.some.injEq,Prod.mk.injEq,reduceCtorEq]
    subst hH;exact K6 ho ht hx hi he ev hh
   ·rename_i n e ht;split at hc
    ·rename_i s b hs hb;split at hc
     ·rename_i h1;simp at hc;subst hc;simp only[bt]at he;split at he
      ·cases he
      ·rename_i j ej;split at he
       ·rename_i cs e';cases hl:(Nat.blt j n&&Nat.ble (n*s) cs.length)with
         |false=>grind
         |true=>rw[hl]at he;simp at he;simp only[aas]at hl;obtain⟨v',fV,rfl,rfl⟩:=he;exact K7 ho ht hs hb h1 hx hi ej e' (by simp_all) (aax hl.2) fV ev hh
       ·cases he
     ·cases hc
    ·cases hc
   ·cases hc
  ·cases hc
 ·rename_i x i ho;simp at hc;obtain⟨x',hx,rfl⟩:=hc;simp only[bt]at he;split at he
  ·rename_i vs e;simp at he;obtain⟨v',fV,rfl,rfl⟩:=he;exact OI ho hx e fV ev hh
  ·cases he
 ·rename_i t x ho;split at hc
  ·cases hc
  ·rename_i d x' U' ht hx;simp at hc;subst hc;simp only[bt,aar,aav]at he;obtain⟨rfl,rfl⟩:=he;exact Cy ho ht (fun m hm=>U' m hm) hx ev hh
  ·cases hc
 ·rename_i t m k ok ho;have hl:∀{kk:dj}{z:V}{m' k':aU},bt ρ H ns (.lookup kk z ok m' k')=some (v,wr)->wr=none:=by intro kk z m' k' he;simp only[bt]at he;grind
  split at hc
  ·rename_i kt e m' k' ht hm hk;split at hc
   ·rename_i z q hz o6;simp at hc;subst hc;have:=hl he;subst this;exact sj (kk:=.int) ho ht ⟨q,o6⟩ hz hm hk he ev hh
   ·rename_i z hz o6;simp at hc;subst hc;have:=hl he;subst this;exact sj (kk:=.str) ho ht o6 hz hm hk he ev hh
   ·rename_i z hz o6;simp at hc;subst hc;have:=hl he;subst this;exact sj (kk:=.bool) ho ht o6 hz hm hk he ev hh
   ·cases hc
  ·cases hc
 ·rename_i t m k x ho;split at hc
  ·rename_i kt e m' k' x' ht hm hk hx;split at hc
   ·rename_i q o6;simp at hc;subst hc;exact sk (kk:=.int) ho ht ⟨q,o6⟩ hm hk hx he ev hh
   ·rename_i o6;simp at hc;subst hc;exact sk (kk:=.str) ho ht o6 hm hk hx he ev hh
   ·rename_i o6;simp at hc;subst hc;exact sk (kk:=.bool) ho ht o6 hm hk hx he ev hh
   ·cases hc
  ·cases hc
 ·rename_i t x ho;split at hc
  ·rename_i kt el ht;simp at hc;obtain⟨x',hx,rfl⟩:=hc;exact HG ho ht hx he ev hh fD
  ·cases hc
 ·grind[Option.map_eq_some_iff,bt]
 ·rename_i it ho;simp at hc;obtain⟨x',hx,rfl⟩:=hc;exact HH ho hx he ev hh
 ·rename_i c ho;exact Em ho hc he ev hh fD
 ·cases hc
end
end Fw
/-
  A box that nobody writes any more is known as data from then on.
-/
namespace Fw
open Go
theorem iD(sz n:Nat)(l:List D):(fY sz n l).length=n:=by induction n generalizing l<;>grind[fY]
theorem cP.kN{w:World}{im:Nat->Prop}{aM:Nat}:∀{ds:List D}{vs:List Value}{off:Nat},ds.length=vs.length->(∀(j:Nat)(d:D)(v:Value),ds[j]? =some d->vs[j]? =some v->Rd w im d v)->(∀(j:Nat)(v:Value),vs[j]? =some v->w.cell? ⟨aM,off+j,none⟩=some v)->cP w im aM off ds
 |[],_,_,_,_,_=>by simp only[cP]
 |d::ds,[],_,hl,_,_=>by simp at hl
 |d::ds,v::vs,off,hl,h1,h2=>by simp only[cP];refine⟨⟨v,by have:=h2 0 v rfl;grind,h1 0 d v rfl rfl⟩,cP.kN (vs:=vs) (by grind) (fun j d' v' hd hv=>h1 (j+1) d' v' (by grind) (by grind)) (fun j v' hv=>?_ )⟩;have:=h2 (j+1) v' (by grind);grind
theorem cP.take{w:World}{im:Nat->Prop}{aM:Nat}:∀(k:Nat)(ds:List D)(q:Nat),cP w im aM q ds->cP w im aM q (ds.take k):=by
 intro k ds;induction ds generalizing k with
  |nil=>grind
  |cons d ds ih=>intro q hq;cases k<;>grind[cP]
theorem kO{w:World}{im:Nat->Prop}{aM sz:Nat}:∀{n:Nat}{off:Nat}{l:List D},n*sz<=l.length->cP w im aM off l->dR w im aM off sz (fY sz n l)
 |0,_,_,_,_=>by grind[fY,dR]
 |n+1,off,l,hl,h=>by
  simp only[fY,dR];have hle:sz<=l.length:=by grind
  refine⟨by simp;omega,cP.take _ _ _ h,?_ ⟩;exact kO (by grind) (cP.drop sz h)
mutual
def bV(b:Nat)(ds:List D):V->V| .ptr c h off=>bif Nat.beq c b then(bif Nat.beq h ds.length then .aO (ds.drop off)else .any)else .ptr c h off| .sl c h off len sz=>bif Nat.beq c b then(bif Nat.beq h ds.length&&Nat.ble (off+len*sz) h then .d (.list (fY sz len (ds.drop off)))else .any)else .sl c h off len sz| .map c=>bif Nat.beq c b then .any else .map c| .iter c m=>bif Nat.beq c b then .any else .iter c m| .gI c=>bif Nat.beq c b then .any else .gI c| .func f a c=>.func f (lF b ds a) (lF b ds c)| .iface t v=>.iface t (bV b ds v)| .agg cs=>.agg (lF b ds cs)| .tuple vs=>.tuple (lF b ds vs)|v=>v
def lF(b:Nat)(ds:List D):List V->List V|[]=>[]|v::vs=>bV b ds v::lF b ds vs
end
def eN(b:Nat)(ds:List D):bR->bR
 | .cells cs=>.cells (lF b ds cs)
 | .map es=>.map (es.map fun p=>(p.1,bV b ds p.2))
 | .loop n tm ps ca cb st=>.loop n (tm.map fun p=>(p.1,bV b ds p.2)) ps ca cb st
 |x=>x
def j4(b:Nat)(ds:List D)(n:Nat):an->an|[]=>[]|x::H=>(bif Nat.beq n b then none else x.map (eN b ds))::j4 b ds (n+1) H
def lS:Option bR->Bool|some (.cells cs)=>cs.all eL|_=>true
def xD(H:an)(b:Nat):Option (List D):=match aC H b with
 |some (.cells cs)=>iR cs
 |some .nil=>some []
 |_=>none
def G.del(g:G)(b:Nat):G:=⟨g.cd,fun c=>if c=b then none else g.γ c,g.fo,g.base⟩
theorem qj(b:Nat)(ds:List D):∀(H:an)(n c:Nat),aC (j4 b ds n H) c=if n+c=b then none else(aC H c).map (eN b ds)
 |[],n,c=>by simp[j4,aC]
 |x::H,n,0=>by simp_all[j4,aC,abX]
 |x::H,n,c+1=>by simp only[j4,aC];rw[qj b ds H (n+1) c];grind
theorem qR(b:Nat)(ds:List D):∀(H:an)(n:Nat),(j4 b ds n H).length=H.length|[],_=>rfl|x::H,n=>by simp[j4,qR b ds H (n+1)]
theorem kP{g:G}{w:World}{b k:Nat}(h:cl g w k):cl (g.del b) w k:=by
 refine⟨h.1,h.2.1,fun c x hx=>?_ ⟩;simp only[G.del]at hx;split at hx
 ·cases hx
 ·exact h.2.2 c x hx
theorem kQ:∀{cs:List V}{ds:List D},iR cs=some ds->cs.length=ds.length/\∀(i:Nat)(d:D),ds[i]? =some d->cs[i]? =some (.d d)\/(cs[i]? =some .ak/\d=.list [])
 |[],ds,h=>by grind[iR,Option.some.injEq]
 |c::cs,ds,h=>by
  cases c with
   |d x=>simp only[iR,aaA]at h;obtain⟨ds',h1,rfl⟩:=h;obtain⟨h2,h3⟩:=kQ h1;grind
   |ak=>simp only[iR,aaA]at h;obtain⟨ds',h1,rfl⟩:=h;obtain⟨h2,h3⟩:=kQ h1;grind
   |_=>simp[iR]at h
def sr(g:G)(w:World)(b:Nat)(ds:List D):Prop:=match g.γ b with
 |some (.cells aM _ cur)=>cur=ds.length/\cl (g.del b) w aM/\cP w (cl (g.del b) w) aM 0 ds
 |some .nil=>ds=[]
 |_=>False
theorem JE{g:G}{w:World}{H:an}{b:Nat}{ds:List D}(hh:aw g w H)(h:xD H b=some ds):sr g w b ds:=by
 unfold xD at h;split at h
 ·rename_i cs hg;obtain⟨x,hx⟩:=hh.back b _ hg;obtain⟨_,y,hy,hr⟩:=hh.live b x hx;rw[hg]at hy;simp at hy;subst hy;obtain⟨hl,JF⟩:=kQ h;unfold sr;rw[hx];cases x with
   |cells aM cp cur=>
    have cy:=hr.lt aM rfl;have Hk:=hh.qO hx rfl;simp only[RB]at hr;obtain⟨r1,r2,r3,c,e,r4,r5,r6⟩:=hr;have nt:cl (g.del b) w aM:=by
     refine⟨cy,Hk,fun c' x' lx hk=>?_ ⟩;simp only[G.del]at lx;split at lx
     ·cases lx
     ·rename_i hO;exact hO (hh.inj c' b x' _ aM lx hx hk rfl)
    refine⟨by omega,nt,?_ ⟩;have Zw:=r6.length;refine cP.kN (vs:=c.toList.take cs.length) (by omega) (fun j d v hd hv=>?_ ) (fun j v hv=>?_ )
    ·rcases JF j d hd with hc|⟨hc,rfl⟩
     ·obtain⟨v',fV,Bc⟩:=aN.get j r6 hc;rw[hv]at fV;simp at fV;subst fV;simp only[RV]at Bc;exact Rd.keeps (fun k hk=>⟨kP hk,rfl⟩) _ _ Bc
     ·obtain⟨v',fV,Bc⟩:=aN.get j r6 hc;grind[Option.some.injEq,RV,Rd]
    grind[World.cell?]
   |nil=>grind[RB]
   |obj=>grind[RB]
 ·rename_i hg;simp at h;subst h;obtain⟨x,hx⟩:=hh.back b _ hg;obtain⟨_,y,hy,hr⟩:=hh.live b x hx;rw[hg]at hy;simp at hy;subst hy;unfold sr;grind[RB]
 ·cases h
mutual
theorem RV.lG{g:G}{w:World}{b:Nat}{ds:List D}(hf:sr g w b ds):∀(u:V)(v:Value),RV g w u v->RV (g.del b) w (bV b ds u) v
 | .any,_,_=>by grind[bV,RV]
 | .d x,v,hv=>by simp only[bV,RV]at hv⊢;exact Rd.keeps (fun k hk=>⟨kP hk,rfl⟩) _ _ hv
 | .full es,v,hv=>by simp only[bV,RV]at hv⊢;exact⟨Rd.keeps (fun k hk=>⟨kP hk,rfl⟩) _ _ hv.1,hv.2⟩
 | .ak,_,hv=>by grind[bV,RV]
 | .ptr c h off,v,hv=>by
  simp only[bV];by_cases hc:c=b
  ·subst hc;simp;cases hb:Nat.beq h ds.length with
    |false=>simp only[aaM,RV]
    |true=>
     simp;have he:=aau hb;simp only[RV]at hv⊢;unfold sr at hf;split at hf
     ·rename_i aM cp cur uJ;obtain⟨f1,f2,f3⟩:=hf;obtain⟨U_,cp',zQ,e1,e2,e3⟩:=hv.2 _ uJ;simp at e1;obtain⟨rfl,rfl,rfl⟩:=e1;exact⟨aM,off,e2 (by omega),fun _=>f2,by simpa using cP.drop off f3⟩
     all_goals grind
  ·rw[dr hc,aaM];simp_all[RV,G.del]
 | .lD,_,hv=>by grind[bV,RV]
 | .aO cs,v,hv=>by
  simp only[bV,RV]at hv⊢;obtain⟨aM,off,h1,h2,h3⟩:=hv;refine⟨aM,off,h1,fun hn=>kP (h2 hn),?_ ⟩;cases cs with
   |nil=>simp only[cP]
   |cons c cs=>exact cP.keeps (im:=cl g w) (vL:=cl (g.del b) w) (fun k hk=>⟨kP hk,rfl⟩) (h2 (by simp)) _ _ h3
 | .sl c h off len sz,v,hv=>by
  simp only[bV];by_cases hc:c=b
  ·subst hc;simp;cases hb:(Nat.beq h ds.length&&Nat.ble (off+len*sz) h)with
    |false=>simp only[aaM,RV]
    |true=>
     simp;simp only[aas]at hb;have he:=aau hb.1;have hle:=aax hb.2;simp only[RV,Rd,iD]at hv⊢;unfold sr at hf;split at hf
     ·rename_i aM cp cur uJ;obtain⟨f1,f2,f3⟩:=hf;have hx:=hv.2 _ uJ;obtain⟨cap,k1,k2,k3⟩:=hx.2 (by omega);right;exact⟨aM,off,cap,sz,k1,k2,fun _=>f2,kO (by simp;omega) (by simpa using cP.drop off f3)⟩
     ·rename_i uJ;have hx:=hv.2 _ uJ;obtain⟨rfl,rfl,rfl,rfl⟩:=hx;left;exact⟨rfl,.inl rfl⟩
     grind
  ·rw[dr hc,aaM];simp_all[RV,G.del]
 | .map c,v,hv=>by
  simp only[bV];by_cases hc:c=b
  ·simp_all[aaS,aaw,RV]
  ·rw[dr hc,aaM];simp_all[RV,G.del]
 | .kC,_,hv=>by grind[bV,RV]
 | .func f a c,v,hv=>by simp only[bV,RV]at hv⊢;obtain⟨x,y,h1,h2,h3⟩:=hv;exact⟨x,y,h1,aN.lG hf _ _ h2,aN.lG hf _ _ h3⟩
 | .oK,_,hv=>by grind[bV,RV]
 | .iface t u,v,hv=>by simp only[bV,RV]at hv⊢;obtain⟨x,h1,h2⟩:=hv;exact⟨x,h1,RV.lG hf _ _ h2⟩
 | .bz,_,hv=>by grind[bV,RV]
 | .fy,_,hv=>by grind[bV,RV]
 | .agg cs,v,hv=>by simp only[bV,RV]at hv⊢;obtain⟨x,h1,h2⟩:=hv;exact⟨x,h1,aN.lG hf _ _ h2⟩
 | .tuple vs,v,hv=>by simp only[bV,RV]at hv⊢;obtain⟨x,h1,h2⟩:=hv;exact⟨x,h1,aN.lG hf _ _ h2⟩
 | .iter c _,v,hv=>by
  simp only[bV];by_cases hc:c=b
  ·simp_all[aaS,aaw,RV]
  ·rw[dr hc,aaM];simp_all[RV,G.del]
 | .gI c,v,hv=>by
  simp only[bV];by_cases hc:c=b
  ·simp_all[aaS,aaw,RV]
  ·rw[dr hc,aaM];simp_all[RV,G.del]
theorem aN.lG{g:G}{w:World}{b:Nat}{ds:List D}(hf:sr g w b ds):∀(us:List V)(vs:List Value),aN g w us vs->aN (g.del b) w (lF b ds us) vs
 |[],[],_=>by grind[lF,aN]
 |u::us,v::vs,hv=>by simp only[lF,aN]at hv⊢;exact⟨RV.lG hf _ _ hv.1,aN.lG hf _ _ hv.2⟩
 |[],_::_,hv=>by grind[aN]
 |_::_,[],hv=>by grind[aN]
end
variable {w:World}{b:Nat}
theorem iE(f:V->V)(hf:f .any=.any):∀(l:List (Nat×V))(t:Nat),get (l.map fun p=>(p.1,f p.2)) t=f (get l t)
 |[],t=>by simp[get,hf]
 |(s,u)::l,t=>by simp only[aaB,get,iE f hf l t];grind
theorem jA(b:Nat)(ds:List D):∀(l:List V),(lF b ds l).length=l.length|[]=>rfl|_::l=>by simp[lF,jA b ds l]
theorem bu.lG{g:G}(g0:G)(w0:World)(h:bu g0 w0 g w):bu g0 w0 (g.del b) w:=⟨h.os,h.tape,h.output,h.size,fun k hk=>⟨kP (h.keeps k hk).1,(h.keeps k hk).2⟩,h.cd,fun c hc=>by
 simp only[G.del];split
 ·grind[GB.step]
 ·exact h.step c hc,h.fo,h.base,h.dw⟩
theorem aw.lG{g:G}{H:an}{ds:List D}(hh:aw g w H)(h:xD H b=some ds)(j2:(j4 b ds 0 H).all lS=true):aw (g.del b) w (j4 b ds 0 H):=by
 have hf:=JE hh h;refine⟨fun c hc=>by rw[qR];exact hh.cd c hc,fun c x hx=>?_,fun c y hy=>?_,fun c c' x x' k hx lx hk kx=>?_,fun k hk=>⟨(hh.fo k hk).1,fun c x hx=>?_ ⟩⟩
 ·simp only[G.del]at hx;split at hx
  ·cases hx
  ·rename_i JD;obtain⟨h1,y,h2,h3⟩:=hh.live c x hx;have hg:aC (j4 b ds 0 H) c=some (eN b ds y):=by grind[qj]
   refine⟨h1,_,hg,?_⟩;cases x with
    |cells aM cp cur=>
     cases y with
      |cells cs=>
       simp only[RB,eN]at h3⊢;obtain⟨r1,r2,r3,cc,e,r4,r5,r6⟩:=h3;refine⟨by grind[jA],?_,by grind[jA],cc,e,r4,r5,?_ ⟩
       ·have hm:some (bR.cells (lF b ds cs))∈j4 b ds 0 H:=by
         have:∀(H:an)(c:Nat)(y:bR),aC H c=some y->some y∈H:=by
          intro H;induction H with
           |nil=>grind[aC]
           |cons z H ih=>intro c y hy;cases c<;>grind[aC]
         exact this _ _ _ hg
        grind[lS]
       ·rw[jA];exact aN.lG hf _ _ r6
      |_=>grind[RB]
    |nil=>grind[RB,eN]
    |obj aM=>
     cases y with
      |map es=>simp only[RB,eN]at h3⊢;obtain⟨bA,clock,e1,e2,e3,e4,e5⟩:=h3;refine⟨bA,clock,e1,by simp[e2],fun i k v hi=>?_,e4,e5⟩;simp only[aa4,aaA,aav]at hi;obtain⟨⟨k',v'⟩,jZ,rfl,rfl⟩:=hi;obtain⟨z,z1,z2,z3,z4⟩:=e3 i k' v' jZ;exact⟨z,z1,z2,Rd.keeps (fun k hk=>⟨kP hk,rfl⟩) _ _ z3,RV.lG hf _ _ z4⟩
      |uz s pos=>grind[RB,eN]
      |loop n tm ps ca cb st=>simp only[RB,eN]at h3⊢;obtain⟨r,e1,e2,e3,e4⟩:=h3;exact⟨r,e1,e2,fun t=>by rw[iE (bV b ds) (by simp only[bV])];exact RV.lG hf _ _ (e3 t),e4⟩
      |bH m n seen=>simp only[RB,eN]at h3⊢;obtain⟨mb,sa,e1,e2,e3,e4⟩:=h3;refine⟨mb,sa,e1,e2,e3,fun x hx=>e4 x ?_ ⟩;grind[G.del]
      |_=>grind[RB]
 ·rw[qj]at hy;split at hy
  ·cases hy
  ·rename_i JD;simp at hy;obtain⟨y',xt,rfl⟩:=hy;obtain⟨x,hx⟩:=hh.back c y' xt;grind[G.del]
 ·simp only[G.del]at hx lx;split at hx
  ·cases hx
  ·split at lx
   ·cases lx
   ·exact hh.inj c c' x x' k hx lx hk kx
 ·simp only[G.del]at hx;split at hx
  ·cases hx
  ·exact(hh.fo k hk).2 c x hx
def j5(b:Nat)(σ:St):Option St:=match xD σ.hp b with
 |some ds=>bif (j4 b ds 0 σ.hp).all lS then some ⟨σ.n,σ.tm.map fun p=>(p.1,bV b ds p.2),j4 b ds 0 σ.hp⟩else none
 |none=>none
theorem R.lG{GL:bM}{g:G}{a:Act}{σ aS:St}(h:R GL g w a σ)(hc:j5 b σ=some aS):R GL (g.del b) w a aS:=by
 unfold j5 at hc;split at hc
 ·rename_i ds JF;cases j2:(j4 b ds 0 σ.hp).all lS with
   |false=>grind
   |true=>rw[j2]at hc;simp at hc;subst hc;refine⟨h.defers.ext (bu.lG _ _ (bu.refl _ _)),h.size,fun t=>?_,h.heap.lG JF j2,h.cD.ext (bu.lG _ _ (bu.refl _ _))⟩;simp only;rw[iE (bV b ds) (by simp only[bV])];exact RV.lG (JE h.heap JF) _ _ (h.tmps t)
 ·cases hc
def jQ(ρ:aU->V):jv->Option V
 | .mkSlice sz len z ps=>
  match fg ρ z ps with
   |some cs=>
    match iR cs with
     |some ds=>some (bif Nat.beq len 0 then .full []else .d (.list (fY sz len ds)))
     |none=>none
   |none=>none
 | .append sz bytes x y=>
  match ρ x,ρ y with
   | .full es,.d (.list ys)=>bif es.all (fun e=>Nat.beq e.length sz)&&ys.all (fun e=>Nat.beq e.length sz)&& !ys.isEmpty&&Nat.ble ((es.flatten.length+ys.flatten.length)*(bytes+1)) cf then some (.d (.list (es++ys)))else none
   |_,_=>none
 |_=>none
section
variable {P:Program}{a:Act}{o:Oper}{g:G}{w:World}{ρ:aU->V}{H:an}{ns:Nat}
theorem o7{op:Op}{sz len:Nat}{z:List V}{ps:List (Nat×Nat×aU)}(h:aV P op=some (.mkSlice sz len z ps)):∃t e z0 qs,op=.buildSlice t len qs/\P.underlying t=some (.slice e)/\fE P e=some sz/\c_ P e=some z0/\len*sz<=2^24/\z0.length=sz/\0<sz/\dx (fun i=>some (i*sz,sz)) qs.toList=some ps/\z=(List.range (len*sz)).map fun i=>z0.getD (i%sz) .any:=by
 cases op with
  |buildSlice t aae qs=>grind[aV,Option.map_eq_some_iff,jv.mkSlice.injEq]
  |makeFunc fn a b=>exfalso;cases fn<;>(grind[aV])
  |makeMap t r=>exfalso;cases r<;>(grind[aV])
  |slice t x lo hi mx=>exfalso;cases mx<;>cases lo<;>cases hi<;>(simp only[aV]at h;(repeat' split at h)<;>simp at h)
  |call c=>exfalso;simp only[aV,cR]at h;(repeat' split at h)<;>simp at h
  |_=>exfalso;simp only[aV]at h;(repeat' split at h)<;>simp at h
theorem bu.zR{g:G}{w:World}{H:an}(hh:aw g w H)(o:Obj):bu g w g (w.alloc o)/\aw g (w.alloc o) H/\cl g (w.alloc o) w.heap.size:=by
 have he:bu g w g (w.alloc o):=⟨rfl,rfl,rfl,by simp,fun k hk=>⟨⟨by have:=hk.1;simp;omega,hk.2⟩,cj _ _ hk.1⟩,fun _ h=>h,fun _ _=>GB.step.refl _,rfl,rfl,fun k hk=>cj _ _ (hh.fo k hk).1⟩;have gp:∀b x k,g.γ b=some x->x.own=some k->k<w.heap.size:=fun b x k hx hk=>by obtain⟨_,y,_,hr⟩:=hh.live b x hx;exact hr.lt k hk
 refine⟨he,hh.ext he (fun b x k hx hk=>cj _ _ (gp b x k hx hk)),by simp,fun h=>?_,fun b x hx hk=>?_ ⟩
 ·have:=(hh.fo _ h).1;omega
 grind
theorem xE{op:Op}{sz bytes:Nat}{x' y':aU}(h:aV P op=some (.append sz bytes x' y')):∃(x y:Operand)(t u e:TypeId)(i:TypeInfo)(z:List V),op=.call {callee:=.builtin .append,args:= #[x,y],argTypes:= #[t,u]}/\P.underlying t=some (.slice e)/\((∃e2,P.underlying u=some (.slice e2))\/P.underlying u=some .string)/\P.info? e=some i/\c_ P e=some z/\0<i.size/\z.length=i.size/\ar x=some x'/\ar y=some y'/\sz=i.size/\bytes=i.bytes:=by
 cases op with
  |call c=>
   simp only[aV]at h;obtain⟨callee,args,ts⟩:=c;unfold cR at h;split at h
   ·exfalso;(repeat' split at h)<;>simp at h
   ·rename_i eC;split at h
    ·rename_i x y t u gV Hm;split at h
     ·grind
     ·rename_i e d U' hu Jy;split at h
      ·rename_i i z x1 y1 hd hi hz hx hy;split at h
       ·rename_i eS;simp at h;obtain⟨rfl,rfl,rfl,rfl⟩:=h;have e1:args= #[x,y]:=aa7.1 (by grind);have e2:ts= #[t,u]:=aa7.1 (by grind);simp only at eC;subst eC;subst e1;subst e2;refine⟨x,y,t,u,e,i,z,rfl,hu,?_,hi,hz,eS.1,eS.2,hx,hy,rfl,rfl⟩;cases d<;>simp[KV]at hd;all_goals grind
       ·cases h
      ·cases h
     ·cases h
    ·cases h
   all_goals (exfalso;(repeat' split at h)<;>simp at h)
  |makeFunc fn a b=>exfalso;cases fn<;>(grind[aV])
  |makeMap t r=>exfalso;cases r<;>(grind[aV])
  |slice t x lo hi mx=>exfalso;cases mx<;>cases lo<;>cases hi<;>(simp only[aV]at h;(repeat' split at h)<;>simp at h)
  |_=>exfalso;simp only[aV]at h;(repeat' split at h)<;>simp at h
theorem En{sz bytes:Nat}{x' y':aU}{es ys:List (List D)}(fT:aV P o.op=some (.append sz bytes x' y'))(ex:ρ x'=.full es)(ey:ρ y'=.d (.list ys))(hc:(es.all (fun e=>Nat.beq e.length sz)&&ys.all (fun e=>Nat.beq e.length sz)&& !ys.isEmpty&&Nat.ble ((es.flatten.length+ys.flatten.length)*(bytes+1)) cf)=true)(ev:Ev ρ a g w)(hh:aw g w H):∃w' r,(execOp a.eval o).run P w=.ok (.value r) w'/\RV g w' (.d (.list (es++ys))) r/\aw g w' H/\bu g w g w':=by
 obtain⟨x,y,t,u,e,i,zs,ho,ht,hu,hi,hz,h0,Zi,hx,hy,rfl,rfl⟩:=xE fT;have cY:=ev _ _ hx;have e9:=ev _ _ hy;rw[ex]at cY;rw[ey]at e9;simp only[aas]at hc;obtain⟨⟨⟨c1,c2⟩,c3⟩,c4⟩:=hc;simp only[c_,aa9]at hz;obtain⟨z,⟨i',jZ,xp⟩,hm⟩:=hz;rw[hi]at jZ;simp at jZ;subst jZ;have K_:z.cells.size=i.size:=by have:=bQ hm;grind
 have Zx:bO H i.size (.d (.list ys))=some (ys.flatten.map .d):=by simp only[bO,c2,aaw]
 have hsx:bO H i.size (.d (.list es))=some (es.flatten.map .d):=by simp only[bO,c1,aaw]
 simp only[RV]at cY;obtain⟨hd,a0,hv⟩:=cY;have OP:RV g w (.d (.list es)) (a.eval x):=by grind[RV]
 obtain⟨n,news,f1,-,f3,f4⟩:=gn (P:=P) Zx e9 hh h0;obtain⟨n',eo,-,UX,JA,Zn⟩:=gn (P:=P) Zx (RV.ext (eB g w) _ _ e9) hh.drew h0;obtain⟨m,jP,q1,q2,q3,q4⟩:=gn (P:=P) hsx (RV.ext (eB g w) _ _ OP) hh.drew h0;have UY:n'=n:=by
  have e1:=JA.length;have e2:=f3.length;have:n'*i.size=n*i.size:=by omega
  exact ab3 h0 this
 subst UY;rw[hv]at q1 q2;have Vc:m=es.length:=by simp_all[Builtin.lenOf]
 subst Vc;have Zy:ys.flatten.length=n'*i.size:=by have:=f3.length;grind
 have Vd:es.flatten.length=es.length*i.size:=by have:=q3.length;grind
 have Bf:∀(l:List (List D)),l.all (fun e=>Nat.beq e.length i.size)=true->l.flatten.length=l.length*i.size:=by
  intro l hl;induction l with
   |nil=>simp
   |cons e l ih=>simp only[aaL,aas]at hl;simp only[acB,aao,aap];rw[ih hl.2,aau hl.1,abJ];omega
 have hyn:ys.length=n':=by have:=Bf ys c2;rw[Zy]at this;exact(ab3 h0 this).symm
 have kL:0<n':=by grind
 have c4:=aax c4;have hle:es.length+n'<=es.flatten.length+ys.flatten.length:=by rw[Vd,Zy,←abJ];exact abv _ h0
 have hb:(es.length+n')*i.bytes<=140737488355328:=by
  have e1:(es.length+n')*i.bytes<=(es.flatten.length+ys.flatten.length)*(i.bytes+1):=Nat.mul_le_mul hle (by omega);have e2:cf<=140737488355328:=by decide
  omega
 have T1:es.length+n'<=140737488355328:=by
  have e1:es.length+n'<=(es.flatten.length+ys.flatten.length)*(i.bytes+1):=aby hle (abv _ (by omega));have e2:cf<=140737488355328:=by decide
  omega
 have hr:=o4 (ty:=o.type) ht hu hi xp f1 UX q2 (by omega) (by omega) (growslice_fits (by omega) hb);have OT:(execOp a.eval o).run P w=.ok (.value (.slice (some ⟨w.heap.size,0,none⟩) (es.length+n') (grownCap w (es.length+n') es.length e))) (w.drew.alloc (.cells (jP.toArray++eo.toArray++Builtin.zeroCells z.cells (grownCap w (es.length+n') es.length e - (es.length+n'))) e)):=by simp_all[execOp,resolve,invoke,builtin]
 obtain⟨g1,g2,g3⟩:=bu.zR hh.drew (.cells (jP.toArray++eo.toArray++Builtin.zeroCells z.cells (grownCap w (es.length+n') es.length e - (es.length+n'))) e);refine⟨_,_,OT,?_,g2,(eB g w).trans g1⟩;simp only[RV,Rd];right;have hlen:(es++ys).length=es.length+n':=by grind
 refine⟨w.heap.size,0,_,i.size,by rw[hlen],by rw[hlen];exact grownCap_ge _ _ _ _,fun _=>g3,?_ ⟩;have iF:(es++ys).all (fun e=>Nat.beq e.length i.size)=true:=by grind
 have T5:es++ys=fY i.size (es.length+n') ((es++ys).flatten):=by
  rw[←hlen];have:∀(l:List (List D)),l.all (fun e=>Nat.beq e.length i.size)=true->l=fY i.size l.length l.flatten:=by
   intro l hl;induction l with
    |nil=>rfl
    |cons e l ih=>simp only[aaL,aas]at hl;have HN:=aau hl.1;grind[List.flatten_cons,List.length_cons,fY,List.take_left,List.drop_left]
  grind
 rw[T5];have Jz:(es++ys).flatten.length=(es.length+n')*i.size:=by grind
 have zS:aN g w.drew ((es++ys).flatten.map .d) (jP++eo):=by rw[List.flatten_append,abt];exact aN.append q3 JA
 refine kO (by omega) ?_;refine cP.kN (vs:=jP++eo) ?_ (fun j d v hd hv=>?_ ) (fun j v hv=>?_ )
 ·grind
 ·obtain⟨v',fV,Bc⟩:=aN.get j zS (show((es++ys).flatten.map V.d)[j]? =some (.d d) by grind);rw[hv]at fV;simp at fV;subst fV;simp only[RV]at Bc;exact Rd.keeps g1.keeps _ _ Bc
 ·have hs:(w.drew.alloc (.cells (jP.toArray++eo.toArray++Builtin.zeroCells z.cells (grownCap w (es.length+n') es.length e - (es.length+n'))) e)).heap[w.heap.size]? =some (.cells (jP.toArray++eo.toArray++Builtin.zeroCells z.cells (grownCap w (es.length+n') es.length e - (es.length+n'))) e (0,0)):=bc _ _;simp only[World.cell?,hs,aaK];grind
theorem uK{io:jv}{v:V}(fT:aV P o.op=some io)(he:jQ ρ io=some v)(ev:Ev ρ a g w)(hh:aw g w H):∃w' x,(execOp a.eval o).run P w=.ok (.value x) w'/\RV g w' v x/\aw g w' H/\bu g w g w':=by
 cases io with
  |mkSlice sz len z ps=>
   simp only[jQ]at he;split at he
   ·rename_i cs nS;split at he
    ·rename_i ds JF;simp at he;subst he;obtain⟨t,e,z0,qs,ho,hu,hs,hz,h1,h2,h3,hq,rfl⟩:=o7 fT;obtain⟨c',k1,k2,k3,k4⟩:=lN ho hu hs hz h1 h2 h3 hq nS ev;obtain⟨f1,f2,f3⟩:=bu.zR hh (.cells c' e);refine⟨_,_,k4,?_,f2,f1⟩;cases uI:Nat.beq len 0 with
      |true=>simp_all[aaw,RV,Rd,aaq]
      |false=>
       simp only[aaM,RV,Rd,iD];right;obtain⟨hl,aC⟩:=kQ JF;have hk:=k1.length;refine⟨_,0,len,sz,rfl,aaC _,fun _=>f3,kO (by omega) ?_ ⟩;refine cP.kN (vs:=c'.toList) (by omega) (fun j d v hd hv=>?_ ) (fun j v hv=>?_ )
       ·rcases aC j d hd with hc|⟨hc,rfl⟩
        ·obtain⟨v',fV,Bc⟩:=aN.get j k1 hc;rw[hv]at fV;simp at fV;subst fV;simp only[RV]at Bc;exact Rd.keeps f1.keeps _ _ Bc
        ·obtain⟨v',fV,Bc⟩:=aN.get j k1 hc;grind[Option.some.injEq,RV,Rd]
       simp_all
    ·cases he
   ·cases he
  |append sz bytes x' y'=>
   simp only[jQ]at he;split at he
   ·rename_i es ys ex ey;cases hc:(es.all (fun e=>Nat.beq e.length sz)&&ys.all (fun e=>Nat.beq e.length sz)&& !ys.isEmpty&&Nat.ble ((es.flatten.length+ys.flatten.length)*(bytes+1)) cf)with
     |false=>grind
     |true=>rw[hc]at he;simp at he;subst he;exact En fT ex ey hc ev hh
   ·cases he
  |_=>grind[jQ]
end
end Fw
