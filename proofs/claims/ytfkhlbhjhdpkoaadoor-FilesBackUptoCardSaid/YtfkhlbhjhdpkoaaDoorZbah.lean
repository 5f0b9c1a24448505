/- Facts on types,and which functions can be called. -/
import Derived.Test.YtfkhlbhjhdpkoaaDoorZbaf
import Derived.Test.YtfkhlbhjhdpkoaaDoorRows
set_option linter.unusedVariables false
set_option linter.unusedSimpArgs false
namespace Go.Proofs.YtfkhlbhjhdpkoaaDoor
open Go.RowKit
theorem JfG:JM Tryd.prog 3=true:=by kernel_rfl
theorem Jgp:Jg Tryd.prog 3=1:=by kernel_rfl
theorem Jin:tAgg Tryd.prog 3=false:=by kernel_rfl
theorem JhS:tZok Tryd.prog 3=true:=by kernel_rfl
theorem tZ_3:tZ Tryd.prog 3=[.int .i64 0]:=by kernel_rfl
theorem Jjb:tCS Tryd.prog 3=[0]:=by kernel_rfl
theorem Je1:Vh Tryd.prog 3=8:=by kernel_rfl
theorem Je6:JM Tryd.prog 4=true:=by kernel_rfl
theorem Jgi:Jg Tryd.prog 4=1:=by kernel_rfl
theorem JhL:tAgg Tryd.prog 4=false:=by kernel_rfl
theorem Jht:tZok Tryd.prog 4=true:=by kernel_rfl
theorem tZ_4:tZ Tryd.prog 4=[.bool false]:=by kernel_rfl
theorem Ji8:tCS Tryd.prog 4=[0]:=by kernel_rfl
theorem Je3:JM Tryd.prog 5=true:=by kernel_rfl
theorem JgP:Jg Tryd.prog 5=1:=by kernel_rfl
theorem Jik:tAgg Tryd.prog 5=false:=by kernel_rfl
theorem Jh0:tZok Tryd.prog 5=true:=by kernel_rfl
theorem tZ_5:tZ Tryd.prog 5=[.int .u8 0]:=by kernel_rfl
theorem Jje:tCS Tryd.prog 5=[0]:=by kernel_rfl
theorem JeU:Vh Tryd.prog 5=1:=by kernel_rfl
theorem Jjf:tZ1 Tryd.prog 5=true:=by kernel_rfl
theorem Jfe:JM Tryd.prog 9=true:=by kernel_rfl
theorem JgK:Jg Tryd.prog 9=1:=by kernel_rfl
theorem JhI:tAgg Tryd.prog 9=false:=by kernel_rfl
theorem Jia:tZok Tryd.prog 9=true:=by kernel_rfl
theorem tZ_9:tZ Tryd.prog 9=[str []]:=by kernel_rfl
theorem Ji9:tCS Tryd.prog 9=[0]:=by kernel_rfl
theorem Jfo:Vh Tryd.prog 9=16:=by kernel_rfl
theorem Jdb:X9 Tryd.prog 9=true:=by kernel_rfl
theorem Je5:ZB Tryd.prog 23=1:=by kernel_rfl
theorem Jew:Jp Tryd.prog 23=true:=by kernel_rfl
theorem JfS:Jf Tryd.prog 23=33:=by kernel_rfl
theorem Jet:Jan 23=true:=by kernel_rfl
theorem Je0:Xr 23=true:=by kernel_rfl
theorem JeO:ZB Tryd.prog 24=1:=by kernel_rfl
theorem Jev:Jp Tryd.prog 24=true:=by kernel_rfl
theorem Jfx:Jf Tryd.prog 24=41:=by kernel_rfl
theorem JdW:Jan 24=true:=by kernel_rfl
theorem JeX:Xr 24=true:=by kernel_rfl
theorem Jd6:JM Tryd.prog 26=true:=by kernel_rfl
theorem JeQ:Jg Tryd.prog 26=1:=by kernel_rfl
theorem JgO:tAgg Tryd.prog 26=false:=by kernel_rfl
theorem Jhq:tCS Tryd.prog 26=[0]:=by kernel_rfl
theorem JdF:JM Tryd.prog 28=true:=by kernel_rfl
theorem Jfp:Jg Tryd.prog 28=3:=by kernel_rfl
theorem Jgu:tAgg Tryd.prog 28=true:=by kernel_rfl
theorem JgQ:tZok Tryd.prog 28=true:=by kernel_rfl
theorem Jja:tZ Tryd.prog 28=[.int .i64 0,.int .i64 0,.int .i64 0]:=by kernel_rfl
theorem JhF:tCS Tryd.prog 28=[0,0,0]:=by kernel_rfl
theorem Jd5:JbC Tryd.prog 28=true:=by kernel_rfl
theorem Jfj:Jcj Tryd.prog 28=true:=by kernel_rfl
theorem JdE:JbX Tryd.prog 28=[1,1,1]:=by kernel_rfl
theorem JbA:Kn Tryd.prog 28 0=true:=by kernel_rfl
theorem JdI:tOff Tryd.prog 28 0=0:=by kernel_rfl
theorem Jd8:tFld Tryd.prog 28 0=26:=by kernel_rfl
theorem JbT:Kn Tryd.prog 28 1=true:=by kernel_rfl
theorem Jem:tOff Tryd.prog 28 1=1:=by kernel_rfl
theorem JdS:tFld Tryd.prog 28 1=3:=by kernel_rfl
theorem JbZ:Kn Tryd.prog 28 2=true:=by kernel_rfl
theorem JdN:tOff Tryd.prog 28 2=2:=by kernel_rfl
theorem Jei:tFld Tryd.prog 28 2=3:=by kernel_rfl
theorem JdC:JM Tryd.prog 33=true:=by kernel_rfl
theorem JfH:Jg Tryd.prog 33=2:=by kernel_rfl
theorem Jge:tAgg Tryd.prog 33=true:=by kernel_rfl
theorem Jgd:tZok Tryd.prog 33=true:=by kernel_rfl
theorem Jjh:tZ Tryd.prog 33=[str [],str []]:=by kernel_rfl
theorem JhU:tCS Tryd.prog 33=[0,0]:=by kernel_rfl
theorem JdU:Vh Tryd.prog 33=32:=by kernel_rfl
theorem JdB:JbC Tryd.prog 33=true:=by kernel_rfl
theorem Jff:Jcj Tryd.prog 33=true:=by kernel_rfl
theorem Jer:JbX Tryd.prog 33=[2,2]:=by kernel_rfl
theorem Jb1:Kn Tryd.prog 33 0=true:=by kernel_rfl
theorem Jd0:tOff Tryd.prog 33 0=0:=by kernel_rfl
theorem JdT:tFld Tryd.prog 33 0=9:=by kernel_rfl
theorem JbQ:Kn Tryd.prog 33 1=true:=by kernel_rfl
theorem Jeb:tOff Tryd.prog 33 1=1:=by kernel_rfl
theorem Jeu:tFld Tryd.prog 33 1=9:=by kernel_rfl
theorem Jd9:JM Tryd.prog 41=true:=by kernel_rfl
theorem JeV:Jg Tryd.prog 41=4:=by kernel_rfl
theorem JgW:tAgg Tryd.prog 41=true:=by kernel_rfl
theorem Jgl:tZok Tryd.prog 41=true:=by kernel_rfl
theorem Jji:tZ Tryd.prog 41=[.int .i64 0,.int .i64 0,.int .i64 0,str []]:=by kernel_rfl
theorem Jh1:tCS Tryd.prog 41=[0,0,0,0]:=by kernel_rfl
theorem Jdv:Vh Tryd.prog 41=40:=by kernel_rfl
theorem JdA:JbC Tryd.prog 41=true:=by kernel_rfl
theorem Jbz:Kn Tryd.prog 41 0=true:=by kernel_rfl
theorem Jex:tOff Tryd.prog 41 0=0:=by kernel_rfl
theorem Jek:tFld Tryd.prog 41 0=3:=by kernel_rfl
theorem JbS:Kn Tryd.prog 41 1=true:=by kernel_rfl
theorem JdP:tOff Tryd.prog 41 1=1:=by kernel_rfl
theorem JeA:tFld Tryd.prog 41 1=3:=by kernel_rfl
theorem JbB:Kn Tryd.prog 41 2=true:=by kernel_rfl
theorem JdH:tOff Tryd.prog 41 2=2:=by kernel_rfl
theorem Jeh:tFld Tryd.prog 41 2=3:=by kernel_rfl
theorem JbV:Kn Tryd.prog 41 3=true:=by kernel_rfl
theorem JdX:tOff Tryd.prog 41 3=3:=by kernel_rfl
theorem Jdx:tFld Tryd.prog 41 3=9:=by kernel_rfl
theorem Jed:JM Tryd.prog 48=true:=by kernel_rfl
theorem Je7:Jg Tryd.prog 48=1:=by kernel_rfl
theorem JgB:tAgg Tryd.prog 48=false:=by kernel_rfl
theorem JhP:tCS Tryd.prog 48=[1]:=by kernel_rfl
theorem Jd2:Jp Tryd.prog 48=true:=by kernel_rfl
theorem Jfk:Jf Tryd.prog 48=5:=by kernel_rfl
theorem Jdy:Jan 48=false:=by kernel_rfl
theorem Jfh:Xr 48=false:=by kernel_rfl
theorem JdL:JM Tryd.prog 49=true:=by kernel_rfl
theorem Jfv:Jg Tryd.prog 49=1:=by kernel_rfl
theorem JgE:tAgg Tryd.prog 49=false:=by kernel_rfl
theorem Jgr:tZok Tryd.prog 49=true:=by kernel_rfl
theorem Jjd:tZ Tryd.prog 49=[.slice none 0 0]:=by kernel_rfl
theorem Jhw:tCS Tryd.prog 49=[1]:=by kernel_rfl
theorem JdY:Jp Tryd.prog 49=true:=by kernel_rfl
theorem Je2:Jf Tryd.prog 49=9:=by kernel_rfl
theorem Jd1:Jan 49=false:=by kernel_rfl
theorem JfF:Xr 49=true:=by kernel_rfl
theorem JdD:Jp Tryd.prog 81=true:=by kernel_rfl
theorem JfD:Jf Tryd.prog 81=3:=by kernel_rfl
theorem y_3:((((type_of% @Tryd.underlying3)∧(type_of% @Jin))∧((type_of% @Je1)∧(type_of% @Jjb)))∧(((type_of% @JfG)∧(type_of% @Jgp))∧((type_of% @tZ_3)∧(type_of% @JhS)))):=⟨⟨⟨@Tryd.underlying3,@Jin⟩,⟨@Je1,@Jjb⟩⟩,⟨⟨@JfG,@Jgp⟩,⟨@tZ_3,@JhS⟩⟩⟩
theorem y_4:(((type_of% @Tryd.underlying4)∧((type_of% @JhL)∧(type_of% @Ji8)))∧(((type_of% @Je6)∧(type_of% @Jgi))∧((type_of% @tZ_4)∧(type_of% @Jht)))):=⟨⟨@Tryd.underlying4,⟨@JhL,@Ji8⟩⟩,⟨⟨@Je6,@Jgi⟩,⟨@tZ_4,@Jht⟩⟩⟩
theorem y_5:((((type_of% @Tryd.underlying5)∧(type_of% @Jik))∧((type_of% @JeU)∧(type_of% @Jje)))∧(((type_of% @Je3)∧(type_of% @JgP))∧((type_of% @Jjf)∧((type_of% @tZ_5)∧(type_of% @Jh0))))):=⟨⟨⟨@Tryd.underlying5,@Jik⟩,⟨@JeU,@Jje⟩⟩,⟨⟨@Je3,@JgP⟩,⟨@Jjf,⟨@tZ_5,@Jh0⟩⟩⟩⟩
theorem y_9:((((type_of% @Tryd.underlying9)∧(type_of% @JhI))∧((type_of% @Jfo)∧(type_of% @Ji9)))∧(((type_of% @Jfe)∧(type_of% @Jdb))∧((type_of% @JgK)∧((type_of% @tZ_9)∧(type_of% @Jia))))):=⟨⟨⟨@Tryd.underlying9,@JhI⟩,⟨@Jfo,@Ji9⟩⟩,⟨⟨@Jfe,@Jdb⟩,⟨@JgK,⟨@tZ_9,@Jia⟩⟩⟩⟩
theorem y_23:(((type_of% @Jet)∧(type_of% @Je0))∧((type_of% @JfS)∧((type_of% @Je5)∧(type_of% @Jew)))):=⟨⟨@Jet,@Je0⟩,⟨@JfS,⟨@Je5,@Jew⟩⟩⟩
theorem y_24:(((type_of% @JdW)∧(type_of% @JeX))∧((type_of% @Jfx)∧((type_of% @JeO)∧(type_of% @Jev)))):=⟨⟨@JdW,@JeX⟩,⟨@Jfx,⟨@JeO,@Jev⟩⟩⟩
theorem y_26:(((type_of% @JgO)∧(type_of% @Jhq))∧((type_of% @Jd6)∧(type_of% @JeQ))):=⟨⟨@JgO,@Jhq⟩,⟨@Jd6,@JeQ⟩⟩
theorem y_28:(((((type_of% @Jgu)∧(type_of% @JhF))∧((type_of% @Jfj)∧(type_of% @Jd8)))∧(((type_of% @JdS)∧(type_of% @Jei))∧((type_of% @JdE)∧((type_of% @JdF)∧(type_of% @JdI)))))∧((((type_of% @Jem)∧(type_of% @JdN))∧((type_of% @Jd5)∧(type_of% @Jfp)))∧(((type_of% @JbA)∧(type_of% @JbT))∧((type_of% @JbZ)∧((type_of% @Jja)∧(type_of% @JgQ)))))):=⟨⟨⟨⟨@Jgu,@JhF⟩,⟨@Jfj,@Jd8⟩⟩,⟨⟨@JdS,@Jei⟩,⟨@JdE,⟨@JdF,@JdI⟩⟩⟩⟩,⟨⟨⟨@Jem,@JdN⟩,⟨@Jd5,@Jfp⟩⟩,⟨⟨@JbA,@JbT⟩,⟨@JbZ,⟨@Jja,@JgQ⟩⟩⟩⟩⟩
theorem y_33:(((((type_of% @Jge)∧(type_of% @JdU))∧((type_of% @JhU)∧(type_of% @Jff)))∧(((type_of% @JdT)∧(type_of% @Jeu))∧((type_of% @Jer)∧(type_of% @JdC))))∧((((type_of% @Jd0)∧(type_of% @Jeb))∧((type_of% @JdB)∧(type_of% @JfH)))∧(((type_of% @Jb1)∧(type_of% @JbQ))∧((type_of% @Jjh)∧(type_of% @Jgd))))):=⟨⟨⟨⟨@Jge,@JdU⟩,⟨@JhU,@Jff⟩⟩,⟨⟨@JdT,@Jeu⟩,⟨@Jer,@JdC⟩⟩⟩,⟨⟨⟨@Jd0,@Jeb⟩,⟨@JdB,@JfH⟩⟩,⟨⟨@Jb1,@JbQ⟩,⟨@Jjh,@Jgd⟩⟩⟩⟩
theorem y_41:(((((type_of% @JgW)∧(type_of% @Jdv))∧((type_of% @Jh1)∧((type_of% @Jek)∧(type_of% @JeA))))∧(((type_of% @Jeh)∧(type_of% @Jdx))∧((type_of% @Jd9)∧((type_of% @Jex)∧(type_of% @JdP)))))∧((((type_of% @JdH)∧(type_of% @JdX))∧((type_of% @JdA)∧((type_of% @JeV)∧(type_of% @Jbz))))∧(((type_of% @JbS)∧(type_of% @JbB))∧((type_of% @JbV)∧((type_of% @Jji)∧(type_of% @Jgl)))))):=⟨⟨⟨⟨@JgW,@Jdv⟩,⟨@Jh1,⟨@Jek,@JeA⟩⟩⟩,⟨⟨@Jeh,@Jdx⟩,⟨@Jd9,⟨@Jex,@JdP⟩⟩⟩⟩,⟨⟨⟨@JdH,@JdX⟩,⟨@JdA,⟨@JeV,@Jbz⟩⟩⟩,⟨⟨@JbS,@JbB⟩,⟨@JbV,⟨@Jji,@Jgl⟩⟩⟩⟩⟩
theorem y_48:((((type_of% @Tryd.underlying48)∧(type_of% @Jdy))∧((type_of% @Jfh)∧(type_of% @JgB)))∧(((type_of% @JhP)∧(type_of% @Jfk))∧((type_of% @Jed)∧((type_of% @Je7)∧(type_of% @Jd2))))):=⟨⟨⟨@Tryd.underlying48,@Jdy⟩,⟨@Jfh,@JgB⟩⟩,⟨⟨@JhP,@Jfk⟩,⟨@Jed,⟨@Je7,@Jd2⟩⟩⟩⟩
theorem y_49:((((type_of% @Jd1)∧(type_of% @JfF))∧((type_of% @JgE)∧((type_of% @Jhw)∧(type_of% @Je2))))∧(((type_of% @JdL)∧(type_of% @Jfv))∧((type_of% @JdY)∧((type_of% @Jjd)∧(type_of% @Jgr))))):=⟨⟨⟨@Jd1,@JfF⟩,⟨@JgE,⟨@Jhw,@Je2⟩⟩⟩,⟨⟨@JdL,@Jfv⟩,⟨@JdY,⟨@Jjd,@Jgr⟩⟩⟩⟩
theorem y_81:((type_of% @JfD)∧(type_of% @JdD)):=⟨@JfD,@JdD⟩
theorem y_88:(type_of% @Tryd.underlying88):=@Tryd.underlying88
theorem JfT:Je Tryd.prog 7:=Jm Tryd.func7 (by kernel_rfl) (by kernel_rfl)
theorem Jhv:Je Tryd.prog 9:=Jm Tryd.func9 (by kernel_rfl) (by kernel_rfl)
theorem JgV:Je Tryd.prog 11:=Jm Tryd.func11 (by kernel_rfl) (by kernel_rfl)
theorem JjK:Je Tryd.prog 13:=Jm Tryd.func13 (by kernel_rfl) (by kernel_rfl)
theorem JgN:Je Tryd.prog 15:=Jm Tryd.func15 (by kernel_rfl) (by kernel_rfl)
theorem JgU:Je Tryd.prog 17:=Jm Tryd.func17 (by kernel_rfl) (by kernel_rfl)
theorem JjP:Je Tryd.prog 19:=Jm Tryd.func19 (by kernel_rfl) (by kernel_rfl)
theorem Jjz:Je Tryd.prog 20:=Jm Tryd.func20 (by kernel_rfl) (by kernel_rfl)
theorem Jju:Je Tryd.prog 21:=Jm Tryd.func21 (by kernel_rfl) (by kernel_rfl)
theorem Jjt:Je Tryd.prog 25:=Jm Tryd.func25 (by kernel_rfl) (by kernel_rfl)
theorem Jjj:Je Tryd.prog 26:=Jm Tryd.func26 (by kernel_rfl) (by kernel_rfl)
theorem Jjq:Je Tryd.prog 27:=Jm Tryd.func27 (by kernel_rfl) (by kernel_rfl)
theorem Jjy:Je Tryd.prog 28:=Jm Tryd.func28 (by kernel_rfl) (by kernel_rfl)
theorem JjS:Je Tryd.prog 29:=Jm Tryd.func29 (by kernel_rfl) (by kernel_rfl)
theorem Jjo:Je Tryd.prog 30:=Jm Tryd.func30 (by kernel_rfl) (by kernel_rfl)
theorem JjA:Je Tryd.prog 31:=Jm Tryd.func31 (by kernel_rfl) (by kernel_rfl)
theorem JgF:Je Tryd.prog 32:=Jm Tryd.func32 (by kernel_rfl) (by kernel_rfl)
theorem JjO:Je Tryd.prog 33:=Jm Tryd.func33 (by kernel_rfl) (by kernel_rfl)
theorem JjT:Je Tryd.prog 38:=Jm Tryd.func38 (by kernel_rfl) (by kernel_rfl)
theorem JjE:Je Tryd.prog 39:=Jm Tryd.func39 (by kernel_rfl) (by kernel_rfl)
theorem JjW:Je Tryd.prog 40:=Jm Tryd.func40 (by kernel_rfl) (by kernel_rfl)
theorem Jjk:Je Tryd.prog 48:=Jm Tryd.func48 (by kernel_rfl) (by kernel_rfl)
theorem Jgf:Je Tryd.prog 49:=Jm Tryd.func49 (by kernel_rfl) (by kernel_rfl)
theorem Jjp:Je Tryd.prog 50:=Jm Tryd.func50 (by kernel_rfl) (by kernel_rfl)
theorem JjN:Je Tryd.prog 57:=Jm Tryd.func57 (by kernel_rfl) (by kernel_rfl)
theorem JjV:Je Tryd.prog 62:=Jm Tryd.func62 (by kernel_rfl) (by kernel_rfl)
theorem Jgk(l:List UInt8):u8s l=List.map dU l:=rfl
theorem mixed:Tryd.prog.follows .mixedOrders=true:=Tryd.checked.mixed
theorem Jn{α:Type}(σ:Nat→α)(d:Nat)(x:α)(i:Nat):upd σ d x i=if i=d then x else σ i:=rfl
theorem Jbs{α:Type}(l:List α)(i:Nat):(l.drop i).take (l.length-i)=l.drop i:=List.take_of_length_le (by simp)
theorem JdK{α β:Type}(f:α→β)(l:List α)(i:Nat):(l.map f).drop i=(l.drop i).map f:=List.map_drop.symm
theorem Jeq{α β:Type}(f:α→β)(l:List α)(i:Nat):(l.map f).take i=(l.take i).map f:=List.map_take.symm
theorem Jo{S R:Type}{b:S→Option (S ⊕ R)}{n:Nat}{x:Option R}{o:S ⊕ R}{out:R}(h:inrO x=some o)(hF:Fin' b n o out):x=some out:=by
 obtain⟨r,h1,rfl⟩:=Jh8 h
 cases hF
 exact h1
theorem J3{S R:Type}{b:S→Option (S ⊕ R)}{n:Nat}{s:S}{o:S ⊕ R}{out:R}(h:(some (.inl s):Option (S ⊕ R))=some o)(hF:Fin' b n o out):Fin' b n (.inl s) out:=by
 obtain rfl:=Option.some.inj h
 exact hF
end Go.Proofs.YtfkhlbhjhdpkoaaDoor
