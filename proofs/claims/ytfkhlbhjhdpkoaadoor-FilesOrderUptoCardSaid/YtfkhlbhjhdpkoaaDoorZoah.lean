/- Facts on types,and which functions can be called. -/
import Derived.Test.YtfkhlbhjhdpkoaaDoorZoaf
import Derived.Test.YtfkhlbhjhdpkoaaDoorRows
set_option linter.unusedVariables false
set_option linter.unusedSimpArgs false
namespace Go.Proofs.YtfkhlbhjhdpkoaaDoor
open Go.RowKit
theorem Jfo:Ka Tryd.prog 3=true:=by kernel_rfl
theorem Jg9:Jg Tryd.prog 3=1:=by kernel_rfl
theorem Jii:tAgg Tryd.prog 3=false:=by kernel_rfl
theorem JiA:tZok Tryd.prog 3=true:=by kernel_rfl
theorem tZ_3:tZ Tryd.prog 3=[.int .i64 0]:=by kernel_rfl
theorem JjE:tCS Tryd.prog 3=[0]:=by kernel_rfl
theorem Jfe:Vl Tryd.prog 3=8:=by kernel_rfl
theorem JfP:Ka Tryd.prog 4=true:=by kernel_rfl
theorem Jho:Jg Tryd.prog 4=1:=by kernel_rfl
theorem Jic:tAgg Tryd.prog 4=false:=by kernel_rfl
theorem JiI:tZok Tryd.prog 4=true:=by kernel_rfl
theorem tZ_4:tZ Tryd.prog 4=[.bool false]:=by kernel_rfl
theorem JjG:tCS Tryd.prog 4=[0]:=by kernel_rfl
theorem Jf2:Ka Tryd.prog 5=true:=by kernel_rfl
theorem JgT:Jg Tryd.prog 5=1:=by kernel_rfl
theorem Jh9:tAgg Tryd.prog 5=false:=by kernel_rfl
theorem Jin:tZok Tryd.prog 5=true:=by kernel_rfl
theorem tZ_5:tZ Tryd.prog 5=[.int .u8 0]:=by kernel_rfl
theorem JjI:tCS Tryd.prog 5=[0]:=by kernel_rfl
theorem JfL:Vl Tryd.prog 5=1:=by kernel_rfl
theorem JjH:tZ1 Tryd.prog 5=true:=by kernel_rfl
theorem JfR:Ka Tryd.prog 9=true:=by kernel_rfl
theorem Jhm:Jg Tryd.prog 9=1:=by kernel_rfl
theorem JiL:tAgg Tryd.prog 9=false:=by kernel_rfl
theorem JhZ:tZok Tryd.prog 9=true:=by kernel_rfl
theorem tZ_9:tZ Tryd.prog 9=[str []]:=by kernel_rfl
theorem JjB:tCS Tryd.prog 9=[0]:=by kernel_rfl
theorem Jgi:Vl Tryd.prog 9=16:=by kernel_rfl
theorem Jc2:Zh Tryd.prog 9=true:=by kernel_rfl
theorem JfO:Zx Tryd.prog 23=1:=by kernel_rfl
theorem JdV:JJ Tryd.prog 23=true:=by kernel_rfl
theorem Jf8:Jh Tryd.prog 23=33:=by kernel_rfl
theorem Jer:Jay 23=true:=by kernel_rfl
theorem JfD:Xz 23=true:=by kernel_rfl
theorem Jgl:Zx Tryd.prog 24=1:=by kernel_rfl
theorem Jec:JJ Tryd.prog 24=true:=by kernel_rfl
theorem JfS:Jh Tryd.prog 24=41:=by kernel_rfl
theorem Jel:Jay 24=true:=by kernel_rfl
theorem Jfs:Xz 24=true:=by kernel_rfl
theorem Jd0:Ka Tryd.prog 26=true:=by kernel_rfl
theorem JfB:Jg Tryd.prog 26=1:=by kernel_rfl
theorem JgG:tAgg Tryd.prog 26=false:=by kernel_rfl
theorem Jiv:tCS Tryd.prog 26=[0]:=by kernel_rfl
theorem Jen:Ka Tryd.prog 28=true:=by kernel_rfl
theorem Jfi:Jg Tryd.prog 28=3:=by kernel_rfl
theorem Jhj:tAgg Tryd.prog 28=true:=by kernel_rfl
theorem Jhd:tZok Tryd.prog 28=true:=by kernel_rfl
theorem JjF:tZ Tryd.prog 28=[.int .i64 0,.int .i64 0,.int .i64 0]:=by kernel_rfl
theorem JhV:tCS Tryd.prog 28=[0,0,0]:=by kernel_rfl
theorem JeR:Jb3 Tryd.prog 28=true:=by kernel_rfl
theorem Jfm:Jcn Tryd.prog 28=true:=by kernel_rfl
theorem JeN:Jb8 Tryd.prog 28=[1,1,1]:=by kernel_rfl
theorem JbU:Kz Tryd.prog 28 0=true:=by kernel_rfl
theorem Jej:tOff Tryd.prog 28 0=0:=by kernel_rfl
theorem Jd4:tFld Tryd.prog 28 0=26:=by kernel_rfl
theorem JbY:Kz Tryd.prog 28 1=true:=by kernel_rfl
theorem Jd7:tOff Tryd.prog 28 1=1:=by kernel_rfl
theorem Jev:tFld Tryd.prog 28 1=3:=by kernel_rfl
theorem Jb0:Kz Tryd.prog 28 2=true:=by kernel_rfl
theorem Jd9:tOff Tryd.prog 28 2=2:=by kernel_rfl
theorem Jd5:tFld Tryd.prog 28 2=3:=by kernel_rfl
theorem Jeg:Ka Tryd.prog 33=true:=by kernel_rfl
theorem Jf4:Jg Tryd.prog 33=2:=by kernel_rfl
theorem Jhp:tAgg Tryd.prog 33=true:=by kernel_rfl
theorem JgN:tZok Tryd.prog 33=true:=by kernel_rfl
theorem JjA:tZ Tryd.prog 33=[str [],str []]:=by kernel_rfl
theorem Jie:tCS Tryd.prog 33=[0,0]:=by kernel_rfl
theorem Jd2:Vl Tryd.prog 33=32:=by kernel_rfl
theorem Jep:Jb3 Tryd.prog 33=true:=by kernel_rfl
theorem Jfz:Jcn Tryd.prog 33=true:=by kernel_rfl
theorem Jd3:Jb8 Tryd.prog 33=[2,2]:=by kernel_rfl
theorem Jce:Kz Tryd.prog 33 0=true:=by kernel_rfl
theorem JeP:tOff Tryd.prog 33 0=0:=by kernel_rfl
theorem JdX:tFld Tryd.prog 33 0=9:=by kernel_rfl
theorem Jcf:Kz Tryd.prog 33 1=true:=by kernel_rfl
theorem Jef:tOff Tryd.prog 33 1=1:=by kernel_rfl
theorem JeE:tFld Tryd.prog 33 1=9:=by kernel_rfl
theorem JeC:Ka Tryd.prog 41=true:=by kernel_rfl
theorem JfE:Jg Tryd.prog 41=4:=by kernel_rfl
theorem JgO:tAgg Tryd.prog 41=true:=by kernel_rfl
theorem Jhh:tZok Tryd.prog 41=true:=by kernel_rfl
theorem Jjy:tZ Tryd.prog 41=[.int .i64 0,.int .i64 0,.int .i64 0,str []]:=by kernel_rfl
theorem Jh3:tCS Tryd.prog 41=[0,0,0,0]:=by kernel_rfl
theorem JeG:Vl Tryd.prog 41=40:=by kernel_rfl
theorem JeF:Jb3 Tryd.prog 41=true:=by kernel_rfl
theorem Jck:Kz Tryd.prog 41 0=true:=by kernel_rfl
theorem JeH:tOff Tryd.prog 41 0=0:=by kernel_rfl
theorem JdU:tFld Tryd.prog 41 0=3:=by kernel_rfl
theorem JbX:Kz Tryd.prog 41 1=true:=by kernel_rfl
theorem Jex:tOff Tryd.prog 41 1=1:=by kernel_rfl
theorem Jey:tFld Tryd.prog 41 1=3:=by kernel_rfl
theorem Jcd:Kz Tryd.prog 41 2=true:=by kernel_rfl
theorem Jeh:tOff Tryd.prog 41 2=2:=by kernel_rfl
theorem JeK:tFld Tryd.prog 41 2=3:=by kernel_rfl
theorem Jcc:Kz Tryd.prog 41 3=true:=by kernel_rfl
theorem Jes:tOff Tryd.prog 41 3=3:=by kernel_rfl
theorem JeU:tFld Tryd.prog 41 3=9:=by kernel_rfl
theorem Jd6:Ka Tryd.prog 48=true:=by kernel_rfl
theorem Jf9:Jg Tryd.prog 48=1:=by kernel_rfl
theorem Jg2:tAgg Tryd.prog 48=false:=by kernel_rfl
theorem Jiz:tCS Tryd.prog 48=[1]:=by kernel_rfl
theorem Jee:JJ Tryd.prog 48=true:=by kernel_rfl
theorem Jgm:Jh Tryd.prog 48=5:=by kernel_rfl
theorem JeV:Jay 48=false:=by kernel_rfl
theorem Jfb:Xz 48=false:=by kernel_rfl
theorem JdY:Ka Tryd.prog 49=true:=by kernel_rfl
theorem Jfj:Jg Tryd.prog 49=1:=by kernel_rfl
theorem Jg1:tAgg Tryd.prog 49=false:=by kernel_rfl
theorem JgL:tZok Tryd.prog 49=true:=by kernel_rfl
theorem Jjx:tZ Tryd.prog 49=[.slice none 0 0]:=by kernel_rfl
theorem JhX:tCS Tryd.prog 49=[1]:=by kernel_rfl
theorem JeD:JJ Tryd.prog 49=true:=by kernel_rfl
theorem Jf1:Jh Tryd.prog 49=9:=by kernel_rfl
theorem JdW:Jay 49=true:=by kernel_rfl
theorem JfN:Xz 49=true:=by kernel_rfl
theorem Jeq:JJ Tryd.prog 81=true:=by kernel_rfl
theorem JfG:Jh Tryd.prog 81=3:=by kernel_rfl
theorem y_3:((((type_of% @Tryd.underlying3)∧(type_of% @Jii))∧((type_of% @Jfe)∧(type_of% @JjE)))∧(((type_of% @Jfo)∧(type_of% @Jg9))∧((type_of% @tZ_3)∧(type_of% @JiA)))):=⟨⟨⟨@Tryd.underlying3,@Jii⟩,⟨@Jfe,@JjE⟩⟩,⟨⟨@Jfo,@Jg9⟩,⟨@tZ_3,@JiA⟩⟩⟩
theorem y_4:(((type_of% @Tryd.underlying4)∧((type_of% @Jic)∧(type_of% @JjG)))∧(((type_of% @JfP)∧(type_of% @Jho))∧((type_of% @tZ_4)∧(type_of% @JiI)))):=⟨⟨@Tryd.underlying4,⟨@Jic,@JjG⟩⟩,⟨⟨@JfP,@Jho⟩,⟨@tZ_4,@JiI⟩⟩⟩
theorem y_5:((((type_of% @Tryd.underlying5)∧(type_of% @Jh9))∧((type_of% @JfL)∧(type_of% @JjI)))∧(((type_of% @Jf2)∧(type_of% @JgT))∧((type_of% @JjH)∧((type_of% @tZ_5)∧(type_of% @Jin))))):=⟨⟨⟨@Tryd.underlying5,@Jh9⟩,⟨@JfL,@JjI⟩⟩,⟨⟨@Jf2,@JgT⟩,⟨@JjH,⟨@tZ_5,@Jin⟩⟩⟩⟩
theorem y_9:((((type_of% @Tryd.underlying9)∧(type_of% @JiL))∧((type_of% @Jgi)∧(type_of% @JjB)))∧(((type_of% @JfR)∧(type_of% @Jc2))∧((type_of% @Jhm)∧((type_of% @tZ_9)∧(type_of% @JhZ))))):=⟨⟨⟨@Tryd.underlying9,@JiL⟩,⟨@Jgi,@JjB⟩⟩,⟨⟨@JfR,@Jc2⟩,⟨@Jhm,⟨@tZ_9,@JhZ⟩⟩⟩⟩
theorem y_23:(((type_of% @Jer)∧(type_of% @JfD))∧((type_of% @Jf8)∧((type_of% @JfO)∧(type_of% @JdV)))):=⟨⟨@Jer,@JfD⟩,⟨@Jf8,⟨@JfO,@JdV⟩⟩⟩
theorem y_24:(((type_of% @Jel)∧(type_of% @Jfs))∧((type_of% @JfS)∧((type_of% @Jgl)∧(type_of% @Jec)))):=⟨⟨@Jel,@Jfs⟩,⟨@JfS,⟨@Jgl,@Jec⟩⟩⟩
theorem y_26:(((type_of% @JgG)∧(type_of% @Jiv))∧((type_of% @Jd0)∧(type_of% @JfB))):=⟨⟨@JgG,@Jiv⟩,⟨@Jd0,@JfB⟩⟩
theorem y_28:(((((type_of% @Jhj)∧(type_of% @JhV))∧((type_of% @Jfm)∧(type_of% @Jd4)))∧(((type_of% @Jev)∧(type_of% @Jd5))∧((type_of% @JeN)∧((type_of% @Jen)∧(type_of% @Jej)))))∧((((type_of% @Jd7)∧(type_of% @Jd9))∧((type_of% @JeR)∧(type_of% @Jfi)))∧(((type_of% @JbU)∧(type_of% @JbY))∧((type_of% @Jb0)∧((type_of% @JjF)∧(type_of% @Jhd)))))):=⟨⟨⟨⟨@Jhj,@JhV⟩,⟨@Jfm,@Jd4⟩⟩,⟨⟨@Jev,@Jd5⟩,⟨@JeN,⟨@Jen,@Jej⟩⟩⟩⟩,⟨⟨⟨@Jd7,@Jd9⟩,⟨@JeR,@Jfi⟩⟩,⟨⟨@JbU,@JbY⟩,⟨@Jb0,⟨@JjF,@Jhd⟩⟩⟩⟩⟩
theorem y_33:(((((type_of% @Jhp)∧(type_of% @Jd2))∧((type_of% @Jie)∧(type_of% @Jfz)))∧(((type_of% @JdX)∧(type_of% @JeE))∧((type_of% @Jd3)∧(type_of% @Jeg))))∧((((type_of% @JeP)∧(type_of% @Jef))∧((type_of% @Jep)∧(type_of% @Jf4)))∧(((type_of% @Jce)∧(type_of% @Jcf))∧((type_of% @JjA)∧(type_of% @JgN))))):=⟨⟨⟨⟨@Jhp,@Jd2⟩,⟨@Jie,@Jfz⟩⟩,⟨⟨@JdX,@JeE⟩,⟨@Jd3,@Jeg⟩⟩⟩,⟨⟨⟨@JeP,@Jef⟩,⟨@Jep,@Jf4⟩⟩,⟨⟨@Jce,@Jcf⟩,⟨@JjA,@JgN⟩⟩⟩⟩
theorem y_41:(((((type_of% @JgO)∧(type_of% @JeG))∧((type_of% @Jh3)∧((type_of% @JdU)∧(type_of% @Jey))))∧(((type_of% @JeK)∧(type_of% @JeU))∧((type_of% @JeC)∧((type_of% @JeH)∧(type_of% @Jex)))))∧((((type_of% @Jeh)∧(type_of% @Jes))∧((type_of% @JeF)∧((type_of% @JfE)∧(type_of% @Jck))))∧(((type_of% @JbX)∧(type_of% @Jcd))∧((type_of% @Jcc)∧((type_of% @Jjy)∧(type_of% @Jhh)))))):=⟨⟨⟨⟨@JgO,@JeG⟩,⟨@Jh3,⟨@JdU,@Jey⟩⟩⟩,⟨⟨@JeK,@JeU⟩,⟨@JeC,⟨@JeH,@Jex⟩⟩⟩⟩,⟨⟨⟨@Jeh,@Jes⟩,⟨@JeF,⟨@JfE,@Jck⟩⟩⟩,⟨⟨@JbX,@Jcd⟩,⟨@Jcc,⟨@Jjy,@Jhh⟩⟩⟩⟩⟩
theorem y_48:((((type_of% @Tryd.underlying48)∧(type_of% @JeV))∧((type_of% @Jfb)∧(type_of% @Jg2)))∧(((type_of% @Jiz)∧(type_of% @Jgm))∧((type_of% @Jd6)∧((type_of% @Jf9)∧(type_of% @Jee))))):=⟨⟨⟨@Tryd.underlying48,@JeV⟩,⟨@Jfb,@Jg2⟩⟩,⟨⟨@Jiz,@Jgm⟩,⟨@Jd6,⟨@Jf9,@Jee⟩⟩⟩⟩
theorem y_49:((((type_of% @JdW)∧(type_of% @JfN))∧((type_of% @Jg1)∧((type_of% @JhX)∧(type_of% @Jf1))))∧(((type_of% @JdY)∧(type_of% @Jfj))∧((type_of% @JeD)∧((type_of% @Jjx)∧(type_of% @JgL))))):=⟨⟨⟨@JdW,@JfN⟩,⟨@Jg1,⟨@JhX,@Jf1⟩⟩⟩,⟨⟨@JdY,@Jfj⟩,⟨@JeD,⟨@Jjx,@JgL⟩⟩⟩⟩
theorem y_81:((type_of% @JfG)∧(type_of% @Jeq)):=⟨@JfG,@Jeq⟩
theorem y_88:(type_of% @Tryd.underlying88):=@Tryd.underlying88
theorem Jfp:Jf Tryd.prog 7:=JA Tryd.func7 (by kernel_rfl) (by kernel_rfl)
theorem Jfq:Jf Tryd.prog 9:=JA Tryd.func9 (by kernel_rfl) (by kernel_rfl)
theorem JgR:Jf Tryd.prog 11:=JA Tryd.func11 (by kernel_rfl) (by kernel_rfl)
theorem JjJ:Jf Tryd.prog 13:=JA Tryd.func13 (by kernel_rfl) (by kernel_rfl)
theorem Jhc:Jf Tryd.prog 15:=JA Tryd.func15 (by kernel_rfl) (by kernel_rfl)
theorem Jhf:Jf Tryd.prog 17:=JA Tryd.func17 (by kernel_rfl) (by kernel_rfl)
theorem Jj9:Jf Tryd.prog 19:=JA Tryd.func19 (by kernel_rfl) (by kernel_rfl)
theorem Jkn:Jf Tryd.prog 20:=JA Tryd.func20 (by kernel_rfl) (by kernel_rfl)
theorem Jj7:Jf Tryd.prog 21:=JA Tryd.func21 (by kernel_rfl) (by kernel_rfl)
theorem JjX:Jf Tryd.prog 25:=JA Tryd.func25 (by kernel_rfl) (by kernel_rfl)
theorem Jkq:Jf Tryd.prog 26:=JA Tryd.func26 (by kernel_rfl) (by kernel_rfl)
theorem Jj5:Jf Tryd.prog 27:=JA Tryd.func27 (by kernel_rfl) (by kernel_rfl)
theorem Jkd:Jf Tryd.prog 28:=JA Tryd.func28 (by kernel_rfl) (by kernel_rfl)
theorem Jj0:Jf Tryd.prog 29:=JA Tryd.func29 (by kernel_rfl) (by kernel_rfl)
theorem Jj6:Jf Tryd.prog 30:=JA Tryd.func30 (by kernel_rfl) (by kernel_rfl)
theorem Jj3:Jf Tryd.prog 31:=JA Tryd.func31 (by kernel_rfl) (by kernel_rfl)
theorem JgI:Jf Tryd.prog 32:=JA Tryd.func32 (by kernel_rfl) (by kernel_rfl)
theorem Jko:Jf Tryd.prog 33:=JA Tryd.func33 (by kernel_rfl) (by kernel_rfl)
theorem Jkh:Jf Tryd.prog 38:=JA Tryd.func38 (by kernel_rfl) (by kernel_rfl)
theorem Jj1:Jf Tryd.prog 39:=JA Tryd.func39 (by kernel_rfl) (by kernel_rfl)
theorem JjU:Jf Tryd.prog 40:=JA Tryd.func40 (by kernel_rfl) (by kernel_rfl)
theorem JjZ:Jf Tryd.prog 48:=JA Tryd.func48 (by kernel_rfl) (by kernel_rfl)
theorem JgW:Jf Tryd.prog 49:=JA Tryd.func49 (by kernel_rfl) (by kernel_rfl)
theorem Jka:Jf Tryd.prog 50:=JA Tryd.func50 (by kernel_rfl) (by kernel_rfl)
theorem JjM:Jf Tryd.prog 57:=JA Tryd.func57 (by kernel_rfl) (by kernel_rfl)
theorem Jkb:Jf Tryd.prog 62:=JA Tryd.func62 (by kernel_rfl) (by kernel_rfl)
theorem JgK(l:List UInt8):u8s l=List.map dU l:=rfl
theorem mixed:Tryd.prog.follows .mixedOrders=true:=Tryd.checked.mixed
theorem JD{α:Type}(σ:Nat→α)(d:Nat)(x:α)(i:Nat):upd σ d x i=if i=d then x else σ i:=rfl
theorem JbM{α:Type}(l:List α)(i:Nat):(l.drop i).take (l.length-i)=l.drop i:=List.take_of_length_le (by simp)
theorem Jei{α β:Type}(f:α→β)(l:List α)(i:Nat):(l.map f).drop i=(l.drop i).map f:=List.map_drop.symm
theorem Jeo{α β:Type}(f:α→β)(l:List α)(i:Nat):(l.map f).take i=(l.take i).map f:=List.map_take.symm
theorem JF{S R:Type}{b:S→Option (S ⊕ R)}{n:Nat}{x:Option R}{o:S ⊕ R}{out:R}(h:inrO x=some o)(hF:Fin' b n o out):x=some out:=by
 obtain⟨r,h1,rfl⟩:=JiK h
 cases hF
 exact h1
theorem Km{S R:Type}{b:S→Option (S ⊕ R)}{n:Nat}{s:S}{o:S ⊕ R}{out:R}(h:(some (.inl s):Option (S ⊕ R))=some o)(hF:Fin' b n o out):Fin' b n (.inl s) out:=by
 obtain rfl:=Option.some.inj h
 exact hF
end Go.Proofs.YtfkhlbhjhdpkoaaDoor
